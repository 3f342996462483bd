/- A part of the proof. -/
import Derived.Test.YtfkbogedodngeaaGreatDoorMs2
import Derived.Test.YtfkbogedodngeaaGreatDoorMs1
import Derived.Test.YtfkbogedodngeaaGreatDoorMs0
set_option linter.all false
namespace Go.Dm.Tc
variable {m:Int} {L:List (Int×Int)} {r:Int} {s:Int→FS} {W:Int→Int→List Bool} {con:Int→Int→Nat} {d:Int→Nat} {x:ID} {p:dR}
variable {h:aA} {nid bid q wid:Nat} {cr:DV} {X:List kW} {B:List aL} {Q:ID→List Msg}
theorem nr34:pcF D t34 []=some (.bool true):=UO (n:=5000) (args:=[]) e34 rfl (by kernel_rfl)
set_option maxRecDepth 8000 in
set_option maxHeartbeats 4000000 in
theorem lna5(P:Res→Prop)(h7:m≤12)(pk:PK)(VT:pk.has.length≤9223372036854775807)(gC:∀v:Nat,(v:Int)<m→∃ q,B[v]?=some (iQ m L x pk.pred v (.has q)))(xid kid:Nat)(K0:aA)(A0:eV K0 nid bid q wid cr m L B Q X)(PF:K0.lim=0)(w0:WF K0)(gx0:K0.get xid=some (.arr 45 2 [.agg [.int .i64 x.bK,.int .i64 x.seq]] (some 1)))(gk0:K0.get kid=some (.arr 27 2 [ePK pk] (some 1))) :
  ∀(k i:Nat) (f:eI) (K:aA),(i+k:Nat)=m.toNat→f 7=.ptr kid 2 0 0→f 10=.ptr nid 5 0 0→f 12=.ptr xid 2 0 0→f 117=.int .i64 m→f 118=.int .i64 i→Ext K0.n K0 K →
  (∀F H,(∀j∈[9,10,13],F j=f j)→Ext K0.n K0 H→P (run D 165 [] MS F H)) →
  P (run D 165 [.block 2,.seq MS] (.loop MQ) f K):=by
 intro k
 induction k with
 | zero =>
  intro i f K hi f7 f10 f12 f117 f118 xx dO
  have:¬((i:Int)<m):=by omega
  rw[aJ MQ.eq_1]
  simp[f117,f118,this]
  refine dO _ _ (fun j hj=>?_) xx
  simp only[List.mem_cons,List.not_mem_nil,or_false]at hj
  rcases hj with rfl|rfl|rfl<;>simp
 | succ k ih =>
  intro i f K hi f7 f10 f12 f117 f118 xx dO
  have A:=A0.ext xx
  have wf:=xx.wf
  have lK:=xx.lim
  have nK:=xx.le
  have hl:K.lim≤K.n:=by omega
  have gg:=(xx.get xid (aC gx0)).trans gx0
  have gk:=(xx.get kid (aC gk0)).trans gk0
  have aZ:(i:Int)<m:=by omega
  have RJ:IntKind.i64.wrap ((i:Int)+1)=(i:Int)+1:=bG (by omega) (by omega)
  obtain⟨qq,hb⟩:=gC i aZ
  have hbare:=Cn (L:=L) (x:=x) (p:=pk.pred) h7 (i:Int) (.has qq)
  have z:=hbare.z
  have ra:=hbare.ra
  obtain⟨b,hbe⟩:∃ b,b=iQ m L x pk.pred i (.has qq):=⟨_,rfl⟩
  have hfind:b.aY.find? (fun a=>a.id=x)=some ⟨x,pk.pred,qq⟩:=by rw[hbe];simp[iQ]
  rw[←hbe]at hb z ra
  have VX:max K.n K.lim=K.n:=by omega
  obtain⟨v1,v2,v3,v4,v5,K1,e1,hh,x1⟩:=q31 (h:=wl K K.n) (nid:=nid) (bid:=bid) (q:=q) (cr:=cr) (m:=m) (L:=L) (B:=B) ⟨A.gn,A.gb⟩ wf (Nat.le_refl _) i hb z
  have gg1:=(x1.get xid (aC gg)).trans gg
  have gk1:=(x1.get kid (aC gk)).trans gk
  have xl:=x1.lim
  have xn:=x1.le
  simp at xl xn
  have cB:K.lim≤K.n:=hl
  have q1:resolve true (wl K1 K.lim) 199 v1=_:=(hh.r1.wl0 cB).resolve (n:=199) true (fun y _=>(fD y).1) (by decide)
  have q2:resolve true (wl K1 K.lim) 199 v2=_:=(hh.r2.wl0 cB).resolve (n:=199) true (fun y _=>(fI y).1) (by decide)
  have q3:resolve true (wl K1 K.lim) 199 v3=_:=(hh.r3.wl0 cB).resolve (n:=199) true (fun y _=>(kD y).1) (by decide)
  have q4:resolve true (wl K1 K.lim) 199 v4=_:=(hh.r4.wl0 cB).resolve (n:=199) true (fun y _=>(fK y).1) (by decide)
  have q5:resolve true (wl K1 K.lim) 199 v5=_:=(hh.r5.wl0 cB).resolve (n:=199) true (fun y _=>(jH y).1) (by decide)
  have hF:pcF D t30 [.agg [.int .i64 b.me,eL true 1 bW b.bB,eL true 4 aG b.aY,eL true 2 eID b.seen,eL true 7 bO b.entries,eL true 3 pQ b.kR],.agg [.int .i64 x.bK,.int .i64 x.seq]]=some (.tup [aG ((b.aY.find? fun a=>a.id=x).getD Au),.bool (JM (b.aY.find? fun a=>a.id=x))]) :=
   s30 (.int .i64 b.me) (eL true 1 bW b.bB) (eL true 2 eID b.seen) (eL true 7 bO b.entries) (eL true 3 pQ b.kR) true b.aY x.bK x.seq ra (by have:=z.adv;omega) ((gU _ _).mono (by decide)) ((eX _ _ _ _).mono (by decide)) ((eX _ _ _ _).mono (by decide)) ((eX _ _ _ _).mono (by decide)) ((eX _ _ _ _).mono (by decide))
  rw[hfind]at hF
  simp only[JM]at hF
  have wf1:WF K1:=x1.wf
  have xK:Ext K.n K (wl K1 K.lim):=⟨x1.le,rfl,fun id eB=>x1.get id eB,wf1⟩
  have D7:K.lim≤K1.n:=by omega
  have hP:=s26 false false pk.has pk.vals VT
  have DU:pk.pred.length≤5:=(AU pk.has pk.vals).len
  have hS:pcF D t32 [dY pk.pred,dY pk.pred]=some (.bool true):=by
   have:=s32 false false pk.pred pk.pred (by omega)
   simpa[dY]using this
  have Rg:¬kid=K1.n:=by have:=aC gk;omega
  have Pq:Br pk.has pk.vals=pk.pred:=rfl
  rw[Pq]at hP
  rw[aJ MQ.eq_1]
  simp[f7,f10,f12,f117,f118,aZ,VX,e1,gg,gg1,gk,gk1,turn,e30,q1,q2,q3,q4,q5,hF,xl,aG,wf1,D7,ePK,Rg,e26,hP,e32,hS,RJ]
  generalize hF':upd _ 118 _=F
  refine ih (i+1) F _ (by omega) (by rw[←hF'];simp[f7]) (by rw[←hF'];simp[f10]) (by rw[←hF'];simp[f12]) (by rw[←hF'];simp[f117]) (by rw[←hF'];simp) (xx.trans ((xK.push).lower nK)) fun F2 H2 Q8 xH=>dO F2 H2 (fun j hj=>?_) xH
  rw[Q8 j hj,←hF']
  simp only[List.mem_cons,List.not_mem_nil,or_false]at hj
  rcases hj with rfl|rfl|rfl<;>simp
set_option maxRecDepth 8000 in
set_option maxHeartbeats 4000000 in
theorem s5(k:Rc)(a:Int)(picks:List Int)(pk:PK)(VT:pk.has.length≤9223372036854775807):pcF D t5 [wP k,.int .i64 a,eL false 1 bW picks,ePK pk]=some (.bool true):=by
 obtain⟨m,hm⟩:∃ m,m=bY k.n 1 7:=⟨_,rfl⟩
 have hrg:=iF k.n 1 7 (by decide)
 rw[←hm]at hrg
 obtain⟨L,hL⟩:∃ L,L=tH m k.under k.more:=⟨_,rfl⟩
 have ok:bR m L:=by rw[hL];exact BQ hrg.1 _ _
 have hLl:L.length≤14:=by rw[hL];exact E6 hrg.2 _ _
 have hc:Iq m L:=by rw[hL];exact Vg _ _
 have gC:DP m L:=by rw[hL];exact E7 hrg.1 _ _
 have hG:=s23 false false k.n k.under k.more
 rw[←hm,←hL]at hG
 obtain⟨r,hr⟩:∃ r,r=bY a 0 (m-1):=⟨_,rfl⟩
 have hrr:=iF a 0 (m-1) (by omega)
 rw[←hr]at hrr
 have hW:=s10 a 0 (m-1) (by omega) (by omega) (by omega)
 rw[←hr]at hW
 have hwm:IntKind.i64.wrap (m-1)=m-1:=bG (by omega) (by omega)
 have hP:=s26 false false pk.has pk.vals VT
 have Pq:Br pk.has pk.vals=pk.pred:=rfl
 rw[Pq]at hP
 have gR:=nr34
 unfold pcF
 rw[aM _ _ _ _ (by simp[t5])]
 simp[t5,wP,ePK,e23,hG]
 generalize hH0:aA.push _ _=H0
 have h0n:H0.n=3:=by rw[←hH0];simp
 have h0l:H0.lim=0:=by rw[←hH0];simp
 have h0w:WF H0:=by rw[←hH0];simp
 have h02:H0.get 2=some (.arr 76 2 [.agg [.int .i64 m,eL false 2 aV L]] (some 1)):=by rw[←hH0];simp
 have h01:H0.get 1=some (.arr 27 2 [.agg [eL false 1 bW pk.has,eL false 1 bW pk.vals]] (some 1)):=by rw[←hH0];simp
 obtain⟨bid,H1,e1,A1,x1,hb⟩:=q24 false ok hrg.1 (by omega) (by omega) gC H0 h0w (by omega)
 have l1:H1.lim=0:=by rw[x1.lim,h0l]
 have lnid:=aC A1.gn
 have lbid:bid<H1.n:=by obtain⟨sp,cap,g⟩:=A1.gb;exact aC g
 have lq:=aC A1.Q.gq
 have lw:H0.n+2<H1.n:=by obtain⟨ms,g,_⟩:=A1.Q.gw;exact aC g
 have g12:H1.get 2=_:=(x1.get 2 (by omega)).trans h02
 have g11:H1.get 1=_:=(x1.get 1 (by omega)).trans h01
 have w1:=x1.wf
 have xp:Ext H1.n H1 (H1.push (.arr 45 2 [.agg [.int .i64 2,.int .i64 1]] (some 1))):=(Ext.refl (Nat.le_refl _) w1).push
 obtain⟨H2,B',Q',e2,A2,F2,U2⟩:=FlM.advert (r:=r) (x:=⟨2,1⟩) (p:=pk.pred) ok (by omega) (by omega) (by omega) (fun _=>rfl) (fun v hv=>(by unfold Jr;rw[List.getElem?_map,List.getElem?_range (by omega)];rfl)) (Gp m L m.toNat) (A1.ext xp) xp.wf (by simp;omega) (.inr rfl)
 have gx2:H2.get H1.n=_:=(U2.old H1.n (by simp) (by simp;omega)).trans (show(H1.push (.arr 45 2 [.agg [.int .i64 2,.int .i64 1]] (some 1))).get H1.n=some (.arr 45 2 [.agg [.int .i64 2,.int .i64 1]] (some 1)) by simp)
 have g22:H2.get 2=_:=(U2.old 2 (by simp;omega) (by simp;omega)).trans ((xp.get 2 (by omega)).trans g12)
 have g21:H2.get 1=_:=(U2.old 1 (by simp;omega) (by simp;omega)).trans ((xp.get 1 (by omega)).trans g11)
 have n2:¬2=H1.n:=by omega
 have n1:¬1=H1.n:=by omega
 have l2:H2.lim=0:=by rw[U2.lim];exact l1
 have hPr:eL false 5 fZ pk.pred=dY pk.pred:=rfl
 rw[hPr]at e2
 simp[e1,rY,Aj,g11,g12,n1,n2,e10,hwm,hW,e26,hP,w1,l1,e2,zX]
 generalize hF:upd _ 47 _=F
 refine l5 (fun r=>jS (fin [.t 8] r)=some (.bool true)) (r:=r) (x:=⟨2,1⟩) (p:=pk.pred) ok (by omega) (by omega) false picks H1.n H2 (by omega) gx2 (by simp;omega) 100 0 F H2 B' Q' _ _ _ _ (by omega) (by rw[←hF];simp) (by rw[←hF];simp) (by rw[←hF];simp) (by rw[←hF];simp) (by rw[←hF];simp) ⟨A2,F2,Upd.refl U2.wf _⟩ ?_ (NG.start r) ?_
 ·have:pW (bD L) (fun _ _=>0)≤0*(bD L).length:=Nq fun _ _=>Nat.le_refl _
  simp at this ⊢;omega
 ·intro F3 H3 B3 Q3 s3 W3 c3 d3 hj a13 T3 hq3 hn3
  have a7:F3 7=.ptr 1 2 0 0:=by rw[hj 7 (by simp),←hF];simp
  have a9:F3 9=.ptr 2 2 0 0:=by rw[hj 9 (by simp),←hF];simp
  have a10:F3 10=.ptr (H0.n+4) 5 0 0:=by rw[hj 10 (by simp),←hF];simp
  have a12:F3 12=.ptr H1.n 2 0 0:=by rw[hj 12 (by simp),←hF];simp
  have hcount:=T3.F.I.count hn3 hq3 hc ok (by omega)
  have g32:H3.get 2=_:=(T3.U.old 2 (by have:=aC g22;omega) (by simp;omega)).trans g22
  have g31:H3.get 1=_:=(T3.U.old 1 (by have:=aC g21;omega) (by simp;omega)).trans g21
  have g3x:H3.get H1.n=_:=(T3.U.old H1.n (by have:=aC gx2;omega) (by simp;omega)).trans gx2
  have l3:H3.lim=0:=by rw[T3.U.lim];exact l2
  have hbusy:iN Q3 (bD L)=[]:=List.filter_eq_nil_iff.2 fun w _=>by rw[T3.F.ws w.1 w.2,hq3];simp
  simp[EZ,a9,g32]
  generalize hF4:upd _ 118 _=F4
  refine lna5 (fun r=>jS (fin [.t 8] r)=some (.bool true)) (L:=L) (x:=⟨2,1⟩) (by omega) pk VT (fun v hv=>⟨rT s3 v,by rw[T3.F.br v hv,←T3.F.I.allHas hn3 hq3 hc (by omega) hv]⟩) H1.n 1 H3 T3.A l3 T3.U.wf g3x g31 m.toNat 0 F4 H3 (by omega) (by rw[←hF4];simp[a7]) (by rw[←hF4];simp[a10]) (by rw[←hF4];simp[a12]) (by rw[←hF4];simp) (by rw[←hF4];simp) (Ext.refl (Nat.le_refl _) T3.U.wf) fun F5 H5 hj5 x5=>?_
  have b9:F5 9=.ptr 2 2 0 0:=by rw[hj5 9 (by simp),←hF4];simp[a9]
  have b10:F5 10=.ptr (H0.n+4) 5 0 0:=by rw[hj5 10 (by simp),←hF4];simp[a10]
  have b13:F5 13=.int .i64 (pW (bD L) c3):=by rw[hj5 13 (by simp),←hF4];simp[a13]
  have T5:=T3.ext x5
  have g52:H5.get 2=_:=(x5.get 2 (aC g32)).trans g32
  obtain⟨vb,H6,e6,o6,x6⟩:=q82 T5.A.Q T5.U.wf (by rw[kM];omega)
  have e6:=GZ T5.A e6
  rw[hbusy]at o6
  have lb:=o6.lenV
  have T6:=T5.ext x6
  obtain⟨vc,H7,e7,o7,x7⟩:=q33 T6.A T6.U.wf (by rw[T6.U.lim,l2];exact Nat.zero_le _) (by simp)
  have lc:=o7.lenV
  have w1':IntKind.i64.wrap (2*(L.length:Int))=2*(L.length:Int):=bG (by omega) (by omega)
  have w2':IntKind.i64.wrap (2*(L.length:Int)-(m-1))=2*(L.length:Int)-(m-1):=bG (by omega) (by omega)
  have hcI:(pW (bD L) c3:Int)=2*(L.length:Int)-(m-1):=by omega
  simp[MS,b9,b10,b13,g52,hwm,w1',w2',hcI,e6,lb,e7,lc,e34,gR]
end Go.Dm.Tc
