/- A part of the proof. -/
import Derived.Test.YtfkbogedodngeaaGreatDoorMs2
import Derived.Test.YtfkbogedodngeaaGreatDoorMs1
set_option linter.all false
set_option maxRecDepth 100000
namespace Go.Dm.Tc
theorem By(h:aA):∀(l:List (List UInt8×Int)) (k:Int) (n:Nat),l.length<n→uZ 57 140 h n (iF l k)=some (some (.int .i64 k))
 | [],k,n,hn=>by
  obtain⟨q,rfl⟩:∃ q,n=q+1:=⟨n-1,by simp at hn;omega⟩
  simp[uZ,iF]
 | p::r,k,n,hn=>by
  obtain⟨q,rfl⟩:∃ q,n=q+1:=⟨n-1,by simp at hn;omega⟩
  have ih:=By h r k q (by simp at hn;omega)
  obtain⟨T,v,he⟩:=vD r k
  rw[he]at ih
  simp[uZ,iF,zK,kH,he,ih]
theorem s15(l:List (List UInt8×Int))(k:Int)(hl:l.length≤40):pcF D t15 [iF l k]=some (.int .i64 k):=by
 have hf:=fun h=>By h l k 50 (by omega)
 obtain⟨T,v,he⟩:=vD l k
 rw[he]at hf
 unfold pcF
 rw[aP _ _ _ _ (by simp[t15])]
 simp[t15,e62,asHook,he,hf,gY]
theorem s18(op:List UInt8)(i:Int)(l:List (List UInt8×Int))(k:Int):pcF D t18 [iF ((op,i)::l) k]=some (.int .i64 i):=by
 unfold pcF
 rw[aP _ _ _ _ (by simp[t18])]
 have cW:bF 1 (.iptr false [.str op,.int .i64 i,iF l k] 0)=true:=rfl
 have RI:aK 1 (.iptr false [.str op,.int .i64 i,iF l k] 0)=[.iptr false [.str op,.int .i64 i,iF l k] 0]:=rfl
 simp[t18,e62,asHook,iF,gY,zK,cW,RI]
def eFP(p:(List UInt8×Int)×DV):DV:=.iptr false [.str p.1.1,.int .i64 p.1.2,p.2] 0
def pQ(k:Int):List (List UInt8×Int)→List ((List UInt8×Int)×DV)
 | []=>[]
 | p::r=>(p,iF r k)::pQ k r
theorem tY(k:Int):∀l,(pQ k l).length=l.length
 | []=>rfl
 | p::r=>by simp[pQ,tY k r]
theorem Gq(k:Int):∀l,(pQ k l).map (·.1.1)=l.map (·.1)
 | []=>rfl
 | p::r=>by simp[pQ,Gq k r]
theorem l63(P:Res→Prop)(k:Int)(h0:aA)(aO:h0.lim≤h0.n):∀(rest:List (List UInt8×Int)) (iA:List ((List UInt8×Int)×DV)) (f:dJ) (h:aA),iA.length+rest.length≤1000→f 0=iF rest k→f 4=.ptr h0.n 1 0 0→(∃ x,h.get h0.n=some (.arr 140 1 [x] (some 1))∧aK 1 x=[x]) →
  OwnR (h0.n+1) h (f 3) 140 1 (iA.map eFP)→Ext h0.n h0 h→h0.n+1≤h.n →
  (∀F H,OwnR (h0.n+1) H (F 3) 140 1 ((iA++pQ k rest).map eFP)→Ext h0.n h0 H→P (run D 17 [] S9 F H)) →
  P (run D 17 [.block 0,.seq S9] (.loop S8) f h):=by
 intro rest
 induction rest with
 | nil =>
  intro iA f h hl f0 f4 hx ho x hn Bu
  simp only[iF]at f0
  rw[aC S8.eq_1]
  simp[f0,f4,e62,asHook]
  exact Bu _ _ (by simpa[pQ]using ho) x
 | cons p r ih =>
  intro iA f h hl f0 f4 hx ho x hn Bu
  obtain⟨y,hy,hey⟩:=hx
  simp only[iF]at f0
  have Je:h.lim≤h0.n:=by rw[x.lim];exact aO
  have cW:bF 1 (.iptr false [.str p.1,.int .i64 p.2,iF r k] 0)=true:=rfl
  have RI:aK 1 (.iptr false [.str p.1,.int .i64 p.2,iF r k] 0)=[.iptr false [.str p.1,.int .i64 p.2,iF r k] 0]:=rfl
  have hwf:=x.wf
  have aZ:h0.n<h.n:=by omega
  have hsl:gY h 1 (.ptr h0.n 1 0 0) (.iptr false [.str p.1,.int .i64 p.2,iF r k] 0)=some (h.set h0.n (.arr 140 1 [.iptr false [.str p.1,.int .i64 p.2,iF r k] 0] (some 1))):=by
   simp[gY,hy,Je,cW,hey,turn]
  generalize hK:h.set h0.n (.arr 140 1 [.iptr false [.str p.1,.int .i64 p.2,iF r k] 0] (some 1))=K at *
  have xK:Ext h0.n h0 K:=by rw[←hK];exact x.set (Nat.le_refl _) aZ
  have oK:OwnR (h0.n+1) K (f 3) 140 1 (iA.map eFP):=by rw[←hK];exact ho.bU hwf (Nat.lt_succ_self _) aZ
  have gK:K.get h0.n=some (.arr 140 1 [.iptr false [.str p.1,.int .i64 p.2,iF r k] 0] (some 1)):=by rw[←hK,fU hwf aZ,if_pos rfl]
  have nK:K.n=h.n:=by rw[←hK];rfl
  have lK:K.lim=h0.lim:=xK.lim
  have wK:=xK.wf
  have n0:¬h0.n=K.n:=by omega
  rw[aC S8.eq_1]
  simp[f0,f4,e62,asHook,zK,hsl,gK,RI,cW,n0]
  generalize hA:aU _ _ _ _ _ _=A
  have xP:Ext (h0.n+1) (K.push (.arr 140 1 [.iptr false [.str p.1,.int .i64 p.2,iF r k] 0] (some 1))) (K.push (.arr 140 1 [.iptr false [.str p.1,.int .i64 p.2,iF r k] 0] (some 1))):=.refl (by simp;omega) wK.push
  obtain⟨w',h',rfl,Xl,Bl,_⟩:=oK.push.append wK.push (by simp;omega) (by simp[lK];omega) hA (by simp;omega) (by decide)
  clear hA
  have g':h'.get h0.n=some (.arr 140 1 [.iptr false [.str p.1,.int .i64 p.2,iF r k] 0] (some 1)):=by
   rw[Bl.get h0.n (Nat.lt_succ_self _),cP (by omega)];exact gK
  have LD:h0.n+1≤h'.n:=Bl.le
  simp[f4,g',RI]
  generalize hF:upd _ 0 _=F
  refine ih (iA++[(p,iF r k)]) F h' (by simp at hl ⊢;omega) (by rw[←hF];simp) (by rw[←hF];simp[f4]) ⟨_,g',RI⟩ (by rw[←hF];simp;simpa[eFP]using Xl) (xK.push.trans (Bl.lower (Nat.le_succ _))) LD ?_
  intro F2 H2 o2 x2
  refine Bu F2 H2 ?_ x2
  simpa[pQ]using o2
theorem q63(l:List (List UInt8×Int))(k:Int)(hl:l.length≤1000)(h:aA)(wf:WF h)(aO:h.lim≤h.n) :
  ∃ v h',fc D 63 [iF l k] h=some (v,h')∧OwnR h.n h' v 140 1 ((pQ k l).map eFP)∧Ext h.n h h':=by
 rw[e63,aP _ _ _ _ (by simp[t63])]
 simp[t63]
 generalize hF:upd _ 4 _=F
 refine l63 (fun r=>∃ v h',fin [.t 2] r=some (v,h')∧OwnR h.n h' v 140 1 ((pQ k l).map eFP)∧Ext h.n h h') k h aO l [] F _ (by simpa using hl) (by rw[←hF];simp) (by rw[←hF];simp) ⟨.nilp,by simp,rfl⟩ (.nil (by rw[←hF];simp) rfl) ((Ext.refl (Nat.le_refl _) wf).push) (by simp) fun F K o x=>?_
 rw[List.nil_append]at o
 exact⟨F 3,K,by simp[S9],o.lower (Nat.le_succ _),x⟩
theorem l17(P:Res→Prop)(X:List ((List UInt8×Int)×DV))(hX:X.length≤1000)(v:DV)(h0:aA)(aO:h0.lim=0)(w:OwnR 0 h0 v 140 1 (X.map eFP)):∀(rest:List ((List UInt8×Int)×DV)) (iA:List (List UInt8)) (i:Nat) (f:dJ) (h:aA),X.drop i=rest→iA.length≤i→f 7=v→f 8=.int .i64 X.length→f 9=.int .i64 i →
  OwnR h0.n h (f 3) 9 1 (iA.map Cd)→Ext h0.n h0 h →
  (∀F H,OwnR h0.n H (F 3) 9 1 ((iA++rest.map (·.1.1)).map Cd)→Ext h0.n h0 H→P (run D 22 [] T5 F H)) →
  P (run D 22 [.block 0,.seq T5] (.loop T4) f h):=by
 intro rest
 induction rest with
 | nil =>
  intro iA i f h hd ha f7 f8 f9 ho x Bu
  have hi:=cY hd
  have:¬(i<X.length):=by omega
  rw[aC T4.eq_1]
  simp[f8,f9,this]
  exact Bu _ _ (by simpa using ho) x
 | cons p rest ih =>
  intro iA i f h hd ha f7 f8 f9 ho x Bu
  obtain⟨hi,he,fV⟩:=cN hd
  have hxi:X[i]?=some p:=by have:=congrArg List.head? hd;simpa[List.head?_drop]using this
  have hw:IntKind.i64.wrap ((i:Int)+1)=(i:Int)+1:=bE (by omega) (by omega)
  obtain⟨id,sp,cap,hv,hg,hl1,_,Xo,mP⟩:=(w.ext x).index (i:=i) (x:=eFP p) (by rw[List.getElem?_map,hxi];rfl) .i64
  have cM:((X.map eFP).length)=X.length:=by simp
  have RI:aK 1 (eFP p)=[eFP p]:=rfl
  have Je:h.lim=0:=x.lim.trans aO
  have hxn:=x.le
  rw[aC T4.eq_1]
  simp[f7,f8,f9,hi,Xo,hg,mP,RI]
  simp[eFP]
  generalize hA:aU _ _ _ _ _ _=A
  obtain⟨w',h',rfl,Xl,Bl,_⟩:=ho.push.append x.push.wf x.push.le (by simp[Je]) hA (by simp;omega) (by decide)
  clear hA
  simp[f9,hw]
  generalize hF:upd _ 9 _=F
  refine ih (iA++[p.1.1]) (i+1) F h' fV (by simp;omega) (by rw[←hF];simp[f7]) (by rw[←hF];simp[f8]) (by rw[←hF];simp) (by rw[←hF];simp;simpa[Cd]using Xl) (x.push.trans Bl) (by simpa using Bu)
theorem s17(l:List (List UInt8×Int))(k:Int)(hl:l.length≤1000):pcF D t17 [iF l k]=some (eL false 1 Cd (l.map (·.1))):=by
 have hq:=q63 l k hl pY (by simp) (by simp)
 obtain⟨v,h',hf,o,x⟩:=hq
 unfold pcF
 rw[aP _ _ _ _ (by simp[t17])]
 have hlv:=o.lenV
 rw[List.length_map,tY]at hlv
 simp[t17,hf,hlv]
 generalize hF:upd _ 9 _=F
 refine l17 (fun r=>dY (fin [.t 2] r)=some (eL false 1 Cd (l.map (·.1)))) (pQ k l) (by rw[tY];exact hl) v h' (by rw[x.lim];rfl) (o.lower (Nat.zero_le _)) (pQ k l) [] 0 F h' rfl (Nat.zero_le _) (by rw[←hF];simp) (by rw[←hF,tY];simp) (by rw[←hF];simp) (.nil (by rw[←hF];simp) rfl) (.refl (Nat.le_refl _) x.wf) fun F K o2 x2=>?_
 rw[List.nil_append,Gq]at o2
 have hout:=o2.out (k:=22) (fun y _=>(Xy y).mono (by decide)) (fun y _=>(S1 y).mono (by decide)) (by decide)
 simp[T5,-uJ]
 exact hout
end Go.Dm.Tc
/-
What the statements' books compute: a broker copied,its rows on the heap.
-/
namespace Go.Dm.Tc
theorem Wx{lo lo':Nat}{h:aA}{id ety sz:Nat}{xs:List DV}(w:dL lo h id ety sz xs)(hl:lo'≤lo):dL lo' h id ety sz xs:=⟨w.get,w.lim,Nat.le_trans hl w.lo⟩
structure AaC(lo:Nat)(h:aA)(b:aF)(i1 i2 i3 i4 i5:Nat):Prop where
 r1:dL lo h i1 3 1 (b.aL.map cF)
 r2:dL lo h i2 68 4 (b.aG.map aJ)
 r3:dL lo h i3 45 2 (b.seen.map eID)
 r4:dL lo h i4 70 7 (b.entries.map aN)
 r5:dL lo h i5 134 3 (b.bJ.map cB)
def VX(b:aF)(i1 i2 i3 i4 i5:Nat):DV:=.agg [.int .i64 b.me,.sl i1 1 0 b.aL.length,.sl i2 4 0 b.aG.length,.sl i3 2 0 b.seen.length,.sl i4 7 0 b.entries.length,.sl i5 3 0 b.bJ.length]
set_option maxHeartbeats 4000000 in
theorem q21{h:aA}{A:Option (DV×aA)}{t:dZ}{b:aF}(hA:fc D 21 [aI t b] h=A)(z:jF b)(wf:WF h)(aO:h.lim≤h.n) :
  ∃ i1 i2 i3 i4 i5 h',A=some (VX b i1 i2 i3 i4 i5,h')∧AaC h.n h' b i1 i2 i3 i4 i5∧Ext h.n h h':=by
 subst hA
 obtain⟨me,aL,aG,seen,entries,bJ⟩:=b
 obtain⟨z1,z2,z3,z4,z5⟩:=z
 simp only at z1 z2 z3 z4 z5
 rw[e21,aP _ _ _ _ (by simp[t21])]
 obtain⟨t1,t2,t3,t4,t5⟩:=t
 simp only[aI]
 simp[t21]
 have W0:Ext h.n h ((h.push (.arr 37 6 [.agg [.int .i64 me,eL t1 1 cF aL,eL t2 4 aJ aG,eL t3 2 eID seen,eL t4 7 aN entries,eL t5 3 cB bJ]] (some 1))).push (.arr 37 6 [.agg [.int .i64 0,.nsl,.nsl,.nsl,.nsl,.nsl]] (some 1))):=(Ext.refl (Nat.le_refl _) wf).push.push
 generalize hH0:(h.push _).push _=H0 at *
 have g0:H0.get h.n=some (.arr 37 6 [.agg [.int .i64 me,eL t1 1 cF aL,eL t2 4 aJ aG,eL t3 2 eID seen,eL t4 7 aN entries,eL t5 3 cB bJ]] (some 1)):=by rw[←hH0];simp
 have k0:H0.get (h.n+1)=some (.arr 37 6 [.agg [.int .i64 0,.nsl,.nsl,.nsl,.nsl,.nsl]] (some 1)):=by rw[←hH0];simp
 have w0:WF H0:=W0.wf
 have q0:H0.lim=h.lim:=W0.lim
 have n0:h.n+2≤H0.n:=by rw[←hH0];simp
 have nn:H0.n=h.n+1+1:=by rw[←hH0];rfl
 rw[←nn]
 generalize hA:aU _ _ _ _ _ _=A
 obtain⟨i1,K1,rfl,o1,x1,y1,_⟩:=(dL.fresh (lo:=h.n+2) (h:=H0) (ety:=3) (sz:=1) (xs:=[]) (cap:=some 0) (by omega) (by omega)).append (n:=0) rfl w0.push (by simp;omega) (by simp;omega) hA (by simp;omega) (by decide)
 clear hA
 rw[List.nil_append]at o1
 have a1:=x1.get h.n (by omega)
 have b1:=x1.get (h.n+1) (by omega)
 have e1:=x1.lim
 have u1:=x1.wf
 have m1:=x1.le
 have z1':=(W0.push (o:=.arr 3 1 [] (some 0))).trans (x1.lower (by omega:h.n≤h.n+2))
 have c0:¬h.n=H0.n:=by omega
 have c1:¬h.n+1=H0.n:=by omega
 simp[c0,c1,g0,k0,q0]at a1 b1 e1
 have l1:h.n<K1.n:=by omega
 have d1:¬h.n=K1.n:=by omega
 simp[a1,b1,e1,u1,l1,d1,aO,turn]
 generalize hH1:K1.set h.n _=H1
 have nn1:H1.n=K1.n:=by rw[←hH1];rfl
 rw[←nn1]
 have g1:H1.get h.n=some (.arr 37 6 [.agg [.int .i64 me,.sl i1 1 0 aL.length,eL t2 4 aJ aG,eL t3 2 eID seen,eL t4 7 aN entries,eL t5 3 cB bJ]] (some 1)):=by rw[←hH1];simp[u1,l1]
 have k1:H1.get (h.n+1)=some (.arr 37 6 [.agg [.int .i64 0,.nsl,.nsl,.nsl,.nsl,.nsl]] (some 1)):=by rw[←hH1];simp[u1,l1,b1]
 have w1:WF H1:=by rw[←hH1];exact u1.set
 have q1:H1.lim=h.lim:=by rw[←hH1];exact e1
 have n1:h.n+2≤H1.n:=by rw[←hH1];exact m1
 replace o1:=o1.bU (o:=.arr 37 6 [.agg [.int .i64 me,.sl i1 1 0 aL.length,eL t2 4 aJ aG,eL t3 2 eID seen,eL t4 7 aN entries,eL t5 3 cB bJ]] (some 1)) u1 (by omega:h.n<h.n+2) l1
 rw[hH1]at o1
 have QY:Ext h.n h H1:=⟨by omega,q1,fun id eO=>by rw[←hH1,fU u1 l1,if_neg (by omega)];exact z1'.get id eO,w1⟩
 replace W0:=QY
 generalize hA:aU _ _ _ _ _ _=A
 obtain⟨i2,K2,rfl,o2,x2,y2,_⟩:=(dL.fresh (lo:=h.n+2) (h:=H1) (ety:=68) (sz:=4) (xs:=[]) (cap:=some 0) (by omega) (by omega)).append (n:=0) rfl w1.push (by simp;omega) (by simp;omega) hA (by simp;omega) (by decide)
 clear hA
 rw[List.nil_append]at o2
 replace o1:=(o1.push).keep y2 x2.lim (by decide)
 have a2:=x2.get h.n (by omega)
 have b2:=x2.get (h.n+1) (by omega)
 have e2:=x2.lim
 have u2:=x2.wf
 have m2:=x2.le
 have z2':=(W0.push (o:=.arr 68 4 [] (some 0))).trans (x2.lower (by omega:h.n≤h.n+2))
 have c0:¬h.n=H1.n:=by omega
 have c1:¬h.n+1=H1.n:=by omega
 simp[c0,c1,g1,k1,q1]at a2 b2 e2
 have l2:h.n<K2.n:=by omega
 have d2:¬h.n=K2.n:=by omega
 simp[a2,b2,e2,u2,l2,d2,aO,turn]
 generalize hH2:K2.set h.n _=H2
 have nn2:H2.n=K2.n:=by rw[←hH2];rfl
 rw[←nn2]
 have g2:H2.get h.n=some (.arr 37 6 [.agg [.int .i64 me,.sl i1 1 0 aL.length,.sl i2 4 0 aG.length,eL t3 2 eID seen,eL t4 7 aN entries,eL t5 3 cB bJ]] (some 1)):=by rw[←hH2];simp[u2,l2]
 have k2:H2.get (h.n+1)=some (.arr 37 6 [.agg [.int .i64 0,.nsl,.nsl,.nsl,.nsl,.nsl]] (some 1)):=by rw[←hH2];simp[u2,l2,b2]
 have w2:WF H2:=by rw[←hH2];exact u2.set
 have q2:H2.lim=h.lim:=by rw[←hH2];exact e2
 have n2:h.n+2≤H2.n:=by rw[←hH2];exact m2
 replace o1:=o1.bU (o:=.arr 37 6 [.agg [.int .i64 me,.sl i1 1 0 aL.length,.sl i2 4 0 aG.length,eL t3 2 eID seen,eL t4 7 aN entries,eL t5 3 cB bJ]] (some 1)) u2 (by omega:h.n<h.n+2) l2
 replace o2:=o2.bU (o:=.arr 37 6 [.agg [.int .i64 me,.sl i1 1 0 aL.length,.sl i2 4 0 aG.length,eL t3 2 eID seen,eL t4 7 aN entries,eL t5 3 cB bJ]] (some 1)) u2 (by omega:h.n<h.n+2) l2
 rw[hH2]at o1
 rw[hH2]at o2
 have NK:Ext h.n h H2:=⟨by omega,q2,fun id eO=>by rw[←hH2,fU u2 l2,if_neg (by omega)];exact z2'.get id eO,w2⟩
 replace W0:=NK
 generalize hA:aU _ _ _ _ _ _=A
 obtain⟨i3,K3,rfl,o3,x3,y3,_⟩:=(dL.fresh (lo:=h.n+2) (h:=H2) (ety:=45) (sz:=2) (xs:=[]) (cap:=some 0) (by omega) (by omega)).append (n:=0) rfl w2.push (by simp;omega) (by simp;omega) hA (by simp;omega) (by decide)
 clear hA
 rw[List.nil_append]at o3
 replace o1:=(o1.push).keep y3 x3.lim (by decide)
 replace o2:=(o2.push).keep y3 x3.lim (by decide)
 have a3:=x3.get h.n (by omega)
 have b3:=x3.get (h.n+1) (by omega)
 have e3:=x3.lim
 have u3:=x3.wf
 have m3:=x3.le
 have z3':=(W0.push (o:=.arr 45 2 [] (some 0))).trans (x3.lower (by omega:h.n≤h.n+2))
 have c0:¬h.n=H2.n:=by omega
 have c1:¬h.n+1=H2.n:=by omega
 simp[c0,c1,g2,k2,q2]at a3 b3 e3
 have l3:h.n<K3.n:=by omega
 have d3:¬h.n=K3.n:=by omega
 simp[a3,b3,e3,u3,l3,d3,aO,turn]
 generalize hH3:K3.set h.n _=H3
 have nn3:H3.n=K3.n:=by rw[←hH3];rfl
 rw[←nn3]
 have g3:H3.get h.n=some (.arr 37 6 [.agg [.int .i64 me,.sl i1 1 0 aL.length,.sl i2 4 0 aG.length,.sl i3 2 0 seen.length,eL t4 7 aN entries,eL t5 3 cB bJ]] (some 1)):=by rw[←hH3];simp[u3,l3]
 have k3:H3.get (h.n+1)=some (.arr 37 6 [.agg [.int .i64 0,.nsl,.nsl,.nsl,.nsl,.nsl]] (some 1)):=by rw[←hH3];simp[u3,l3,b3]
 have w3:WF H3:=by rw[←hH3];exact u3.set
 have q3:H3.lim=h.lim:=by rw[←hH3];exact e3
 have n3:h.n+2≤H3.n:=by rw[←hH3];exact m3
 replace o1:=o1.bU (o:=.arr 37 6 [.agg [.int .i64 me,.sl i1 1 0 aL.length,.sl i2 4 0 aG.length,.sl i3 2 0 seen.length,eL t4 7 aN entries,eL t5 3 cB bJ]] (some 1)) u3 (by omega:h.n<h.n+2) l3
 replace o2:=o2.bU (o:=.arr 37 6 [.agg [.int .i64 me,.sl i1 1 0 aL.length,.sl i2 4 0 aG.length,.sl i3 2 0 seen.length,eL t4 7 aN entries,eL t5 3 cB bJ]] (some 1)) u3 (by omega:h.n<h.n+2) l3
 replace o3:=o3.bU (o:=.arr 37 6 [.agg [.int .i64 me,.sl i1 1 0 aL.length,.sl i2 4 0 aG.length,.sl i3 2 0 seen.length,eL t4 7 aN entries,eL t5 3 cB bJ]] (some 1)) u3 (by omega:h.n<h.n+2) l3
 rw[hH3]at o1
 rw[hH3]at o2
 rw[hH3]at o3
 have hx3:Ext h.n h H3:=⟨by omega,q3,fun id eO=>by rw[←hH3,fU u3 l3,if_neg (by omega)];exact z3'.get id eO,w3⟩
 replace W0:=hx3
 generalize hA:aU _ _ _ _ _ _=A
 obtain⟨i4,K4,rfl,o4,x4,y4,_⟩:=(dL.fresh (lo:=h.n+2) (h:=H3) (ety:=70) (sz:=7) (xs:=[]) (cap:=some 0) (by omega) (by omega)).append (n:=0) rfl w3.push (by simp;omega) (by simp;omega) hA (by simp;omega) (by decide)
 clear hA
 rw[List.nil_append]at o4
 replace o1:=(o1.push).keep y4 x4.lim (by decide)
 replace o2:=(o2.push).keep y4 x4.lim (by decide)
 replace o3:=(o3.push).keep y4 x4.lim (by decide)
 have a4:=x4.get h.n (by omega)
 have b4:=x4.get (h.n+1) (by omega)
 have e4:=x4.lim
 have u4:=x4.wf
 have m4:=x4.le
 have z4':=(W0.push (o:=.arr 70 7 [] (some 0))).trans (x4.lower (by omega:h.n≤h.n+2))
 have c0:¬h.n=H3.n:=by omega
 have c1:¬h.n+1=H3.n:=by omega
 simp[c0,c1,g3,k3,q3]at a4 b4 e4
 have l4:h.n<K4.n:=by omega
 have d4:¬h.n=K4.n:=by omega
 simp[a4,b4,e4,u4,l4,d4,aO,turn]
 generalize hH4:K4.set h.n _=H4
 have nn4:H4.n=K4.n:=by rw[←hH4];rfl
 rw[←nn4]
 have g4:H4.get h.n=some (.arr 37 6 [.agg [.int .i64 me,.sl i1 1 0 aL.length,.sl i2 4 0 aG.length,.sl i3 2 0 seen.length,.sl i4 7 0 entries.length,eL t5 3 cB bJ]] (some 1)):=by rw[←hH4];simp[u4,l4]
 have k4:H4.get (h.n+1)=some (.arr 37 6 [.agg [.int .i64 0,.nsl,.nsl,.nsl,.nsl,.nsl]] (some 1)):=by rw[←hH4];simp[u4,l4,b4]
 have w4:WF H4:=by rw[←hH4];exact u4.set
 have q4:H4.lim=h.lim:=by rw[←hH4];exact e4
 have n4:h.n+2≤H4.n:=by rw[←hH4];exact m4
 replace o1:=o1.bU (o:=.arr 37 6 [.agg [.int .i64 me,.sl i1 1 0 aL.length,.sl i2 4 0 aG.length,.sl i3 2 0 seen.length,.sl i4 7 0 entries.length,eL t5 3 cB bJ]] (some 1)) u4 (by omega:h.n<h.n+2) l4
 replace o2:=o2.bU (o:=.arr 37 6 [.agg [.int .i64 me,.sl i1 1 0 aL.length,.sl i2 4 0 aG.length,.sl i3 2 0 seen.length,.sl i4 7 0 entries.length,eL t5 3 cB bJ]] (some 1)) u4 (by omega:h.n<h.n+2) l4
 replace o3:=o3.bU (o:=.arr 37 6 [.agg [.int .i64 me,.sl i1 1 0 aL.length,.sl i2 4 0 aG.length,.sl i3 2 0 seen.length,.sl i4 7 0 entries.length,eL t5 3 cB bJ]] (some 1)) u4 (by omega:h.n<h.n+2) l4
 replace o4:=o4.bU (o:=.arr 37 6 [.agg [.int .i64 me,.sl i1 1 0 aL.length,.sl i2 4 0 aG.length,.sl i3 2 0 seen.length,.sl i4 7 0 entries.length,eL t5 3 cB bJ]] (some 1)) u4 (by omega:h.n<h.n+2) l4
 rw[hH4]at o1
 rw[hH4]at o2
 rw[hH4]at o3
 rw[hH4]at o4
 have hx4:Ext h.n h H4:=⟨by omega,q4,fun id eO=>by rw[←hH4,fU u4 l4,if_neg (by omega)];exact z4'.get id eO,w4⟩
 replace W0:=hx4
 generalize hA:aU _ _ _ _ _ _=A
 obtain⟨i5,K5,rfl,o5,x5,y5,_⟩:=(dL.fresh (lo:=h.n+2) (h:=H4) (ety:=134) (sz:=3) (xs:=[]) (cap:=some 0) (by omega) (by omega)).append (n:=0) rfl w4.push (by simp;omega) (by simp;omega) hA (by simp;omega) (by decide)
 clear hA
 rw[List.nil_append]at o5
 replace o1:=(o1.push).keep y5 x5.lim (by decide)
 replace o2:=(o2.push).keep y5 x5.lim (by decide)
 replace o3:=(o3.push).keep y5 x5.lim (by decide)
 replace o4:=(o4.push).keep y5 x5.lim (by decide)
 have a5:=x5.get h.n (by omega)
 have b5:=x5.get (h.n+1) (by omega)
 have e5:=x5.lim
 have u5:=x5.wf
 have m5:=x5.le
 have z5':=(W0.push (o:=.arr 134 3 [] (some 0))).trans (x5.lower (by omega:h.n≤h.n+2))
 have c0:¬h.n=H4.n:=by omega
 have c1:¬h.n+1=H4.n:=by omega
 simp[c0,c1,g4,k4,q4]at a5 b5 e5
 have l5:h.n<K5.n:=by omega
 have l5b:h.n+1<K5.n:=by omega
 have d5:¬h.n=h.n+1:=by omega
 have d5':¬h.n+1=h.n:=by omega
 have l5c:h.lim≤h.n+1:=by omega
 simp[a5,b5,e5,u5,l5,l5b,l5c,d5,d5',aO,turn,VX]
 refine⟨i1,i2,i3,i4,i5,_,⟨⟨rfl,rfl,rfl,rfl,rfl⟩,rfl⟩,?_,?_⟩
 ·exact⟨Wx ((o1.bU u5 (by omega) l5).bU u5.set (by omega) l5b) (by omega),Wx ((o2.bU u5 (by omega) l5).bU u5.set (by omega) l5b) (by omega),Wx ((o3.bU u5 (by omega) l5).bU u5.set (by omega) l5b) (by omega),Wx ((o4.bU u5 (by omega) l5).bU u5.set (by omega) l5b) (by omega),Wx ((o5.bU u5 (by omega) l5).bU u5.set (by omega) l5b) (by omega)⟩
 ·refine⟨by show h.n≤K5.n;omega,e5,fun id eO=>?_,u5.set.set⟩
  rw[fU u5.set l5b,if_neg (by omega),fU u5 l5,if_neg (by omega)]
  exact z5'.get id eO
end Go.Dm.Tc
/-
Is a broker right,and tight: what is told of one.
-/
namespace Go.Dm.Tc
def fS:List UInt8:=[98,114,111,107,101,114]
def xD(b:aF):DV:=if mS b && tX b then .nili else iF [(fS,b.me)] 4
theorem q20{h:aA}{t:dZ}{b:aF}(z:jF b)(hn:Dx b)(hp:Al b)(ra:dB (b.aG.map (·.id)))(aO:h.lim≤h.n) :
  fc D 20 [aI t b] h=some (xD b,h.push (.arr 37 6 [aI t b] (some 1))):=by
 have hR:=s66 t b z hn
 have hT:=s67 t b z hp ra
 have hN:=U2 fS b.me [] 4 (by decide)
 have hN':pcF D t49 [.str [98,114,111,107,101,114],.int .i64 b.me,.iface 57 (.int .i64 4)]=some (iF [(fS,b.me)] 4):=hN
 rw[e20,aP _ _ _ _ (by simp[t20])]
 unfold xD
 cases h1:mS b<;>cases h2:tX b<;>rw[h1]at hR<;>rw[h2]at hT <;>
  simp[t20,e66,hR,e67,hT,e49,hN',turn,Nb]
theorem Ra{h:aA}{t:dZ}{b:aF}{i1 i2 i3 i4 i5 n1 n2 n3 n4 n5:Nat}(z:jF b)(hn:Dx b)(hp:Al b)(ra:dB (b.aG.map (·.id)))(aO:h.lim≤h.n)
  (r1:∀o,resolve true (h.push o) 199 (.sl i1 1 0 n1)=some (eL t.aL 1 cF b.aL)) (r2:∀o,resolve true (h.push o) 199 (.sl i2 4 0 n2)=some (eL t.aG 4 aJ b.aG)) (r3:∀o,resolve true (h.push o) 199 (.sl i3 2 0 n3)=some (eL t.seen 2 eID b.seen)) (r4:∀o,resolve true (h.push o) 199 (.sl i4 7 0 n4)=some (eL t.entries 7 aN b.entries)) (r5:∀o,resolve true (h.push o) 199 (.sl i5 3 0 n5)=some (eL t.bJ 3 cB b.bJ)) :
  fc D 20 [.agg [.int .i64 b.me,.sl i1 1 0 n1,.sl i2 4 0 n2,.sl i3 2 0 n3,.sl i4 7 0 n4,.sl i5 3 0 n5]] h=some (xD b,h.push (.arr 37 6 [.agg [.int .i64 b.me,.sl i1 1 0 n1,.sl i2 4 0 n2,.sl i3 2 0 n3,.sl i4 7 0 n4,.sl i5 3 0 n5]] (some 1))):=by
 have hR:=s66 t b z hn
 have hT:=s67 t b z hp ra
 have hN:=U2 fS b.me [] 4 (by decide)
 have hN':pcF D t49 [.str [98,114,111,107,101,114],.int .i64 b.me,.iface 57 (.int .i64 4)]=some (iF [(fS,b.me)] 4):=hN
 have uV:DV.agg [.int .i64 b.me,eL t.aL 1 cF b.aL,eL t.aG 4 aJ b.aG,eL t.seen 2 eID b.seen,eL t.entries 7 aN b.entries,eL t.bJ 3 cB b.bJ]=aI t b:=_root_.id rfl
 rw[e20,aP _ _ _ _ (by simp[t20])]
 unfold xD
 cases h1:mS b<;>cases h2:tX b<;>rw[h1]at hR<;>rw[h2]at hT <;>
  simp[t20,r1,r2,r3,r4,r5,uV,e66,hR,e67,hT,e49,hN',turn,Nb]
theorem uO{α:Type}(cm:α→Int):∀(xs:List α),(∀x∈xs,cm x<0)→aV cm xs=xs.length
 | [],_=>rfl
 | x::r,h=>by
  have ih:=uO cm r fun y hy=>h y (List.mem_cons_of_mem _ hy)
  have hx:=h x (List.mem_cons_self ..)
  unfold aV at ih ⊢
  rw[List.findIdx_cons,decide_eq_true hx]
  simp[ih]
def tAu:ID:=⟨25,0⟩
def auB(b:aF):aF:={b with aG:=b.aG++[⟨tAu,[],b.aL.headD 0⟩],seen:=b.seen++[tAu]}
def auE(b:aF)(u:Bool):aF:={auB b with entries:=b.entries++[⟨tAu,tAu,[],-1,u⟩]}
theorem Wv{x:ID}(h:x.aW≤4):bK x tAu<0:=by
 rw[hM]
 left
 show x.aW<25
 omega
theorem Xr{b:aF}(h:0<b.aL.length):b.aL.headD 0∈b.aL:=by
 cases hn:b.aL with
 | nil=>rw[hn]at h;simp at h
 | cons x r=>simp
theorem FL{b:aF}(h:cC b)(hl:gX b):(bX b ⟨tAu,[],b.aL.headD 0⟩).1=auB b:=by
 have hn:tAu ∉ b.seen:=fun hm=>by have:=hl.seen _ hm;simp[tAu]at this
 have ha:∀a∈b.aG,bK a.id tAu<0:=fun a ha=>Wv (hl.seen _ (h.sub a ha))
 have hs:∀x∈b.seen,bK x tAu<0:=fun x hx=>Wv (hl.seen _ hx)
 unfold bX
 rw[if_neg hn]
 simp only[iK,uO _ _ ha,uO _ _ hs,List.take_length,List.drop_length,auB]
theorem Kq{b:aF}(h:cC b)(hl:gX b):cC (auB b):=by
 rw[←FL h hl]
 refine h.learn ?_ cZ.nil
 unfold jJ
 simp
 exact .inr (by simpa using Xr hl.ne)
theorem Gk{b:aF}(h:cC b)(hl:gX b){e:bB}(he:e∈b.entries):e.tree.aW≤4:=by
 obtain⟨a,ha,_⟩:=gQ.1 (h.ent e he)
 obtain⟨h1,h2⟩:=(lG h.ra).1 ha
 rw[←h2]
 exact hl.seen _ (h.sub a h1)
theorem Q7{b:aF}(h:cC b)(hl:gX b):jK (auB b) tAu=some ⟨tAu,[],b.aL.headD 0⟩ :=
 (lG (Kq h hl).ra).2 ⟨by simp[auB],rfl⟩
theorem Q6{b:aF}(hl:gX b):1≤b.aL.headD 0:=(hl.aL _ (Xr hl.ne)).1
theorem MQ{b:aF}(h:cC b)(hl:gX b):bV b.entries tAu []=false:=by
 rw[Bool.eq_false_iff]
 intro hc
 obtain⟨e,he,ht,_⟩:=iU.1 hc
 have:=Gk h hl he
 rw[ht]at this
 simp[tAu]at this
theorem SN{b:aF}(h:cC b)(hl:gX b):(fZ (auB b) ⟨tAu,tAu,[],-1,false⟩).1=auE b true:=by
 have hp:=Q6 hl
 have hm:nZ (auB b) ⟨tAu,tAu,[],-1,false⟩=true:=by
  rw[zU]
  refine⟨_,Q7 h hl,fun x hx=>?_,fun e=>?_⟩
  ·have:=Gk h hl (show x∈b.entries from hx)
   have dW:x.tree≠tAu:=fun e=>by rw[e]at this;simp[tAu]at this
   simp[isE,dW]
  ·simp only at e
   omega
 have hu:yF (auB b) ⟨tAu,tAu,[],-1,false⟩=true:=by
  unfold yF
  rw[fC,Q7 h hl]
  have h1:¬(b.aL.headD 0=-1):=by omega
  have h2:=MQ h hl
  have h3:(auB b).entries=b.entries:=rfl
  simp only[Option.getD_some,h3,h2,decide_eq_false h1]
  rfl
 have hs:∀e∈b.entries,gU tAu tAu e<0:=fun e he=>by
  rw[uC,kS]
  left;left
  have:=Gk h hl he
  show e.tree.aW<25
  omega
 unfold fZ
 rw[if_pos hm,hu]
 have h3:(auB b).entries=b.entries:=rfl
 simp only[zW,h3,uO _ _ hs,List.take_length,List.drop_length,auE]
theorem MR{b:aF}(h:cC b)(hl:gX b):cC (auE b true):=by
 rw[←SN h hl]
 exact(Kq h hl).add (by simp[jJ]) cZ.nil
theorem FK{b:aF}(h:cC b)(hl:gX b):tX (auE b false)=false:=by
 rw[Bool.eq_false_iff]
 intro ht
 have hp:=Q6 hl
 have:=iV.1 ht ⟨tAu,tAu,[],-1,false⟩ (by simp[auE])
 rcases this with h1|h1|h1
 ·cases h1
 ·have:dP (auE b false) tAu=b.aL.headD 0:=by
   have:=Q7 h hl
   rw[fC]
   show((jK (auB b) tAu).getD vK).bP=_
   rw[this];rfl
  simp only at h1
  rw[this]at h1
  omega
 ·obtain⟨e,he,h2,h3,_⟩:=iU.1 h1
  rcases List.mem_append.1 he with he|he
  ·have:=Gk h hl he
   rw[h2]at this
   simp[tAu]at this
  ·rw[List.mem_singleton]at he
   rw[he]at h3
   cases h3
theorem cC.setMe{b:aF}(h:cC b)(m:Int):cC {b with me:=m}:=⟨h.aL,h.loc,h.ra,h.rs,h.ro,h.re,h.sub,h.par,h.pa,h.po,h.ent,h.pe,h.tight⟩
theorem gX.setMe{b:aF}(h:gX b)(m:Int):gX {b with me:=m}:=⟨h.aL,h.ne,h.seen,h.own,h.ent⟩
theorem SzK.setMe{b:aF}{n:Nat}(h:SzK b n)(m:Int):SzK {b with me:=m} n:=⟨h.aL,h.adv,h.seen,h.own,h.ent⟩
theorem cC.audit{b:aF}(h:cC b):xD b=.nili:=by unfold xD;rw[h.right,h.tight];rfl
theorem SzK.auB{b:aF}(h:SzK b 12):SzK (auB b) 13:=⟨h.aL,by simp[Dm.Tc.auB];have:=h.adv;omega,by simp[Dm.Tc.auB];have:=h.seen;omega,Nat.le_trans h.own (by decide),Nat.le_trans h.ent (by decide)⟩
theorem SzK.auE{b:aF}(h:SzK b 12)(u:Bool):SzK (auE b u) 13:=⟨h.aL,by simp[Dm.Tc.auE,Dm.Tc.auB];have:=h.adv;omega,by simp[Dm.Tc.auE,Dm.Tc.auB];have:=h.seen;omega,Nat.le_trans h.own (by decide),by simp[Dm.Tc.auE];have:=h.ent;omega⟩
end Go.Dm.Tc
/-
A broker whose rows lie on the heap,and grow: what stays.
-/
namespace Go.Dm.Tc
def auC(b:aF)(i1 i2 i3 i4 i5 na ns ne:Nat):DO:=.arr 37 6 [.agg [.int .i64 b.me,.sl i1 1 0 b.aL.length,.sl i2 4 0 na,.sl i3 2 0 ns,.sl i4 7 0 ne,.sl i5 3 0 b.bJ.length]] (some 1)
structure AuS(H:aA)(C:Nat)(b:aF)(i1 i2 i3 i4 i5:Nat)(A S E:List DV):Prop where
 wf:WF H
 lim:H.lim=0
 n:4≤H.n
 c:4≤C
 g1:H.get 1=some (.arr 37 6 [aI .none b] (some 1))
 g3:H.get 3=some (.arr 45 2 [.agg [.int .i64 25,.int .i64 0]] (some 1))
 gC:H.get C=some (auC b i1 i2 i3 i4 i5 A.length S.length E.length)
 r1:dL 4 H i1 3 1 (b.aL.map cF)
 r2:dL 4 H i2 68 4 A
 r3:dL 4 H i3 45 2 S
 r4:dL 4 H i4 70 7 E
 r5:dL 4 H i5 134 3 (b.bJ.map cB)
variable {H:aA} {C:Nat} {b:aF} {i1 i2 i3 i4 i5:Nat} {A S E:List DV}
theorem AuS.push(s:AuS H C b i1 i2 i3 i4 i5 A S E)(o:DO):AuS (H.push o) C b i1 i2 i3 i4 i5 A S E:=by
 have hc:=cI s.gC
 have hn:=s.n
 refine⟨s.wf.push,s.lim,by simp;omega,s.c,?_,?_,?_,s.r1.push,s.r2.push,s.r3.push,s.r4.push,s.r5.push⟩
 ·rw[cP (by omega)];exact s.g1
 ·rw[cP (by omega)];exact s.g3
 ·rw[cP hc];exact s.gC
theorem qW{lo:Nat}{h:aA}{i ety sz C e2 s2:Nat}{xs ys:List DV}{cap:Option Nat}(w:dL lo h i ety sz xs)(hg:h.get C=some (.arr e2 s2 ys cap))(dW:ety≠e2):i≠C:=fun e=>by
 obtain⟨sp,cp,hw⟩:=w.get
 rw[e,hg]at hw
 injection hw with hw
 injection hw with e1
 exact dW e1.symm
theorem mY{lo:Nat}{h:aA}{i ety sz X:Nat}{xs:List DV}{o:DO}(w:dL lo h i ety sz xs)(wf:WF h)(hX:X<h.n)(dW:i≠X):dL lo (h.set X o) i ety sz xs:=by
 obtain⟨⟨sp,cap,hg⟩,hl,hi⟩:=w
 exact⟨⟨sp,cap,by rw[fU wf hX,if_neg dW];exact hg⟩,hl,hi⟩
theorem AuS.grown{K:aA}{ety:Nat}(s:AuS H C b i1 i2 i3 i4 i5 A S E)(y:pN ety H K)(x:Ext 4 H K)(he:ety≠37){i2' i3' i4':Nat}{A' S' E':List DV}
  (h1:dL 4 K i1 3 1 (b.aL.map cF)) (h2:dL 4 K i2' 68 4 A') (h3:dL 4 K i3' 45 2 S') (h4:dL 4 K i4' 70 7 E') (h5:dL 4 K i5 134 3 (b.bJ.map cB)) :
  K.get C=some (auC b i1 i2 i3 i4 i5 A.length S.length E.length)∧C<K.n∧WF K∧K.lim=0∧K.get 1=some (.arr 37 6 [aI .none b] (some 1))∧K.get 3=some (.arr 45 2 [.agg [.int .i64 25,.int .i64 0]] (some 1))∧AuS (K.set C (auC b i1 i2' i3' i4' i5 A'.length S'.length E'.length)) C b i1 i2' i3' i4' i5 A' S' E':=by
 have gC:=y C _ s.gC (fun s xs c e=>by injection e with e1;exact he e1.symm)
 have hc:=cI gC
 have c4:=s.c
 have hn:=s.n
 have k1:=(x.get 1 (by decide)).trans s.g1
 have k3:=(x.get 3 (by decide)).trans s.g3
 refine⟨gC,hc,x.wf,x.lim.trans s.lim,k1,k3,x.wf.set,x.lim.trans s.lim,x.le,c4,?_,?_,?_,?_,?_,?_,?_,?_⟩
 ·rw[bI hc (by omega)];exact k1
 ·rw[bI hc (by omega)];exact k3
 ·exact eY x.wf gC
 ·exact mY h1 x.wf hc (qW h1 gC (by decide))
 ·exact mY h2 x.wf hc (qW h2 gC (by decide))
 ·exact mY h3 x.wf hc (qW h3 gC (by decide))
 ·exact mY h4 x.wf hc (qW h4 gC (by decide))
 ·exact mY h5 x.wf hc (qW h5 gC (by decide))
theorem AuS.advert{v:DV}{R:Option (DV×aA)}(s:AuS H C b i1 i2 i3 i4 i5 A S E)(hl:A.length≤200000)(hR:aU H 68 4 48 (.sl i2 4 0 A.length) [v]=R) :
  ∃ i K,R=some (.sl i 4 0 (A.length+1),K)∧K.get C=some (auC b i1 i2 i3 i4 i5 A.length S.length E.length)∧C<K.n∧WF K∧K.lim=0∧K.get 1=some (.arr 37 6 [aI .none b] (some 1))∧K.get 3=some (.arr 45 2 [.agg [.int .i64 25,.int .i64 0]] (some 1))∧AuS (K.set C (auC b i1 i i3 i4 i5 (A++[v]).length S.length E.length)) C b i1 i i3 i4 i5 (A++[v]) S E:=by
 have hn:=s.n
 have aO:=s.lim
 obtain⟨i,K,rfl,q,x,y,_⟩:=s.r2.append rfl s.wf s.n (by omega) hR (by simp;omega) (by decide)
 exact⟨i,K,rfl,s.grown y x (by decide) (s.r1.keep y x.lim (by decide)) q (s.r3.keep y x.lim (by decide)) (s.r4.keep y x.lim (by decide)) (s.r5.keep y x.lim (by decide))⟩
theorem AuS.seen{v:DV}{R:Option (DV×aA)}(s:AuS H C b i1 i2 i3 i4 i5 A S E)(hl:S.length≤200000)(hR:aU H 45 2 16 (.sl i3 2 0 S.length) [v]=R) :
  ∃ i K,R=some (.sl i 2 0 (S.length+1),K)∧K.get C=some (auC b i1 i2 i3 i4 i5 A.length S.length E.length)∧C<K.n∧WF K∧K.lim=0∧K.get 1=some (.arr 37 6 [aI .none b] (some 1))∧K.get 3=some (.arr 45 2 [.agg [.int .i64 25,.int .i64 0]] (some 1))∧AuS (K.set C (auC b i1 i2 i i4 i5 A.length (S++[v]).length E.length)) C b i1 i2 i i4 i5 A (S++[v]) E:=by
 have hn:=s.n
 have aO:=s.lim
 obtain⟨i,K,rfl,q,x,y,_⟩:=s.r3.append rfl s.wf s.n (by omega) hR (by simp;omega) (by decide)
 exact⟨i,K,rfl,s.grown y x (by decide) (s.r1.keep y x.lim (by decide)) (s.r2.keep y x.lim (by decide)) q (s.r4.keep y x.lim (by decide)) (s.r5.keep y x.lim (by decide))⟩
theorem AuS.entry{v:DV}{R:Option (DV×aA)}(s:AuS H C b i1 i2 i3 i4 i5 A S E)(hl:E.length≤200000)(hR:aU H 70 7 72 (.sl i4 7 0 E.length) [v]=R) :
  ∃ i K,R=some (.sl i 7 0 (E.length+1),K)∧K.get C=some (auC b i1 i2 i3 i4 i5 A.length S.length E.length)∧C<K.n∧WF K∧K.lim=0∧K.get 1=some (.arr 37 6 [aI .none b] (some 1))∧K.get 3=some (.arr 45 2 [.agg [.int .i64 25,.int .i64 0]] (some 1))∧AuS (K.set C (auC b i1 i2 i3 i i5 A.length S.length (E++[v]).length)) C b i1 i2 i3 i i5 A S (E++[v]):=by
 have hn:=s.n
 have aO:=s.lim
 obtain⟨i,K,rfl,q,x,y,_⟩:=s.r4.append rfl s.wf s.n (by omega) hR (by simp;omega) (by decide)
 exact⟨i,K,rfl,s.grown y x (by decide) (s.r1.keep y x.lim (by decide)) (s.r2.keep y x.lim (by decide)) (s.r3.keep y x.lim (by decide)) q (s.r5.keep y x.lim (by decide))⟩
theorem AuS.turnE{v v':DV}(s:AuS H C b i1 i2 i3 i4 i5 A S (E++[v])):∃ sp cap,H.get i4=some (.arr 70 7 ((E++[v])++sp) cap)∧((E++[v])++sp)[E.length]?=some v∧AuS (H.set i4 (.arr 70 7 (((E++[v])++sp).set E.length v') cap)) C b i1 i2 i3 i4 i5 A S (E++[v']):=by
 obtain⟨sp,cap,hg⟩:=s.r4.get
 have h4:=s.r4.lo
 have hl:=s.r4.lt
 have c4:=s.c
 have nC:=qW s.r4 s.gC (by decide)
 refine⟨sp,cap,hg,by simp,s.wf.set,s.lim,s.n,s.c,?_,?_,?_,mY s.r1 s.wf hl (qW s.r1 hg (by decide)),mY s.r2 s.wf hl (qW s.r2 hg (by decide)),mY s.r3 s.wf hl (qW s.r3 hg (by decide)),?_,mY s.r5 s.wf hl (qW s.r5 hg (by decide))⟩
 ·rw[bI hl (by omega)];exact s.g1
 ·rw[bI hl (by omega)];exact s.g3
 ·rw[bI hl nC.symm];simpa using s.gC
 ·refine⟨⟨sp,cap,?_⟩,s.r4.lim,h4⟩
  rw[fU s.wf hl,if_pos rfl]
  congr 2
  simp[List.set_append]
theorem Ie{α:Type}{e:α→DV}{lo:Nat}{h:aA}{id ety sz n:Nat}{xs ys:List α}{raws:List DV}(w:dL lo h id ety sz (xs.map e++raws))(hf:∀y,gP 20 (e y))(hr:raws.mapM (resolve true h 198)=some (ys.map e))(hn:n=xs.length+raws.length) :
  resolve true h 199 (.sl id sz 0 n)=some (eL true sz e (xs++ys)):=by
 subst hn
 obtain⟨sp,cap,hg⟩:=w.get
 have hl:((xs.map e++raws)++sp).take (xs.length+raws.length)=xs.map e++raws:=List.take_left' (by simp)
 have hx:(xs.map e).mapM (resolve true h 198)=some (xs.map e):=mL fun x hx=>by
  obtain⟨y,_,rfl⟩:=List.mem_map.1 hx
  exact hf y true h 198 (by decide)
 have hm:(xs.map e++raws).mapM (resolve true h 198)=some ((xs++ys).map e):=by
  rw[List.mapM_append,hx,hr,List.map_append];rfl
 rw[nV,hg,fB,if_pos ⟨rfl,by simp⟩,List.drop_zero,hl]
 show QU true sz ((xs.map e++raws).mapM (resolve true h 198))=_
 rw[hm];rfl
end Go.Dm.Tc
/-
AuditBroker: a broker as calls make it is right;one whose entry is loose is told: the law's walk.
-/
namespace Go.Dm.Tc
theorem s22:pcF D t22 []=some (.bool true):=JO (n:=5000) (args:=[]) e22 rfl (by kernel_rfl)
theorem d6:pcF D t16 [.isl false 1 [.str fS],.isl true 1 [.str fS]]=some (.bool true):=JO (n:=1000) (args:=[.isl false 1 [.str fS],.isl true 1 [.str fS]]) e16 rfl (by kernel_rfl)
set_option maxHeartbeats 4000000 in
theorem s4(k:Y8)(me:Int)(hk:∀z∈k.steps,z.has.length≤9223372036854775807) :
  pcF D t4 [Dq k,.int .i64 me]=some (.bool true):=by
 have hB:=s9 false k.aL k.steps hk
 obtain⟨hi,hz⟩:=Sw k.aL k.steps
 have jU:=Za k.aL k.steps
 generalize yB k.aL k.steps=b0 at *
 have w1:=s10 me 0 60 (by decide) (by decide) (by decide)
 generalize aQ me 0 60=M at *
 have hb:∃ b:aF,b={b0 with me:=M}:=⟨_,rfl⟩
 obtain⟨b,hb⟩:=hb
 have lI:cC b:=by rw[hb];exact hi.setMe M
 have SZ:SzK b 12:=by rw[hb];exact hz.setMe M
 have Fl:gX b:=by rw[hb];exact jU.setMe M
 have z:=SZ.sized (by decide)
 have ht:turn 6 0 1 (aI .none b0) (.int .i64 M)=aI .none b:=by rw[hb];rfl
 have hau:=fun(h:aA) (hl:h.lim≤h.n)=>q20 (h:=h) (t:=.none) z lI.sizedN lI.asked lI.ra hl
 rw[lI.audit]at hau
 unfold pcF
 rw[aP _ _ _ _ (by simp[t4])]
 simp[t4,Dq,e9,hB,e10,w1,ht,hau,Ir]
 generalize hA:fc D _ _ _=A
 obtain⟨i1,i2,i3,i4,i5,K,rfl,R,x⟩:=q21 hA z (by simp) (by simp)
 clear hA
 obtain⟨r1,r2,r3,r4,r5⟩:=R
 have a1:=x.get 1 (by simp)
 have a3:=x.get 3 (by simp)
 have al:=x.lim
 have aw:=x.wf
 have an:=x.le
 simp at a1 a3 al an r1 r2 r3 r4 r5
 have hC:AuS (K.push (auC b i1 i2 i3 i4 i5 b.aG.length b.seen.length b.entries.length)) K.n b i1 i2 i3 i4 i5 (b.aG.map aJ) (b.seen.map eID) (b.entries.map aN) :=
  ⟨by simp[aw],by simp[al],by simp;omega,by omega,by rw[cP (by omega)];exact a1,by rw[cP (by omega)];exact a3,by simp,r1.push,r2.push,r3.push,r4.push,r5.push⟩
 obtain⟨q,hq⟩:∃ q,b.aL.headD 0=q:=⟨_,rfl⟩
 have Xo:b.aL[0]?=some q:=by
  have dW:=Fl.ne
  rw[←hq]
  cases hn:b.aL with
  | nil=>rw[hn]at dW;simp at dW
  | cons q r=>rfl
 have e1:¬1=K.n:=by omega
 have e3:¬3=K.n:=by omega
 obtain⟨zz1,zz2,zz3,zz4,zz5⟩:=z
 simp only[VX]
 simp[al,aw,turn,a1,a3,e1,e3,Xo,cF]
 unfold auC at hC
 generalize hH:K.push _=H at *
 generalize hR:aU _ _ _ _ _ _=R
 have hCn:K.n<H.n:=cI hC.gC
 generalize hCC:K.n=C at *
 have la:(b.aG.map aJ).length=b.aG.length:=List.length_map ..
 have ls:(b.seen.map eID).length=b.seen.length:=List.length_map ..
 have le:(b.entries.map aN).length=b.entries.length:=List.length_map ..
 rw[←la]at hR
 have c4:=hC.c
 obtain⟨i2',K1,rfl,gC,lC,wf,lim,g1,g3,hC1⟩:=(hC.push _).advert (by rw[la];omega) hR
 clear hR
 simp only[auC,la,ls,le,List.length_append,List.length_cons,List.length_nil,Nat.zero_add]at gC hC1
 have lC':C<K1.n:=lC
 have hnK:=hC1.n
 simp at hnK
 have n1:¬1=K1.n:=by omega
 have n3:¬3=K1.n:=by omega
 have nC:¬C=K1.n:=by omega
 have o1:¬1=C:=by omega
 have o3:¬3=C:=by omega
 simp[gC,lim,wf,lC',g1,g3,n1,n3,nC,o1,o3,turn,la]
 generalize hH1:K1.set C _=H1 at *
 generalize hR:aU _ _ _ _ _ _=R
 rw[←ls]at hR
 obtain⟨i3',K2,rfl,gC,lC2,wf,lim,g1,g3,hC2⟩:=(hC1.push _).seen (by rw[ls];omega) hR
 clear hR
 simp only[auC,la,ls,le,List.length_append,List.length_cons,List.length_nil,Nat.zero_add]at gC hC2
 have Zs:1≤q:=by rw[←hq];exact Q6 Fl
 have ka:=Kq lI Fl
 have kz:=SZ.auB.sized (by decide)
 have ke:=MR lI Fl
 have kez:=(SZ.auE true).sized (by decide)
 have kl:=FK lI Fl
 have klz:=(SZ.auE false).sized (by decide)
 have eA:[(⟨tAu,[],q⟩:bD)].map aJ=[.agg [.int .i64 25,.int .i64 0,.isl false 0 [],.int .i64 q]]:=_root_.id rfl
 have rA:∀h,([DV.agg [.int .i64 25,.int .i64 0,.nsl,.int .i64 q]]:List DV).mapM (resolve true h 198)=some ([(⟨tAu,[],q⟩:bD)].map aJ):=fun _=>_root_.id rfl
 have rS:∀h,([DV.agg [.int .i64 25,.int .i64 0]]:List DV).mapM (resolve true h 198)=some ([tAu].map eID):=fun _=>_root_.id rfl
 have aud1:=fun(h:aA) hl r1 r2 r3 r4 r5=>Ra (h:=h) (t:=⟨true,true,true,true,true⟩) (b:=auB b) (i1:=i1) (i2:=i2') (i3:=i3') (i4:=i4) (i5:=i5) (n1:=b.aL.length) (n2:=b.aG.length+1) (n3:=b.seen.length+1) (n4:=b.entries.length) (n5:=b.bJ.length) kz ka.sizedN ka.asked ka.ra hl r1 r2 r3 r4 r5
 rw[ka.audit]at aud1
 have fI:=fun y=>(zR y).1
 simp[gC,lim,wf,lC2,turn,ls]
 generalize hH2:K2.set C _=H2 at *
 have R1:=fun {K:aA} {x2 x3 x4:Nat} {A S E:List DV} (s:AuS K C b i1 x2 x3 x4 i5 A S E) (o:DO)=>(show resolve true (K.push o) 199 (.sl i1 1 0 b.aL.length)=some (eL true 1 cF b.aL)from by
  have:=(s.push o).r1.toR.resolve (n:=199) true (fun y _=>(zR y).1) (by decide)
  rw[List.length_map]at this;exact this)
 have R5:=fun {K:aA} {x2 x3 x4:Nat} {A S E:List DV} (s:AuS K C b i1 x2 x3 x4 i5 A S E) (o:DO)=>(show resolve true (K.push o) 199 (.sl i5 3 0 b.bJ.length)=some (eL true 3 cB b.bJ)from by
  have:=(s.push o).r5.toR.resolve (n:=199) true (fun y _=>(xO y).1) (by decide)
  rw[List.length_map]at this;exact this)
 have R2:=fun {K:aA} {x2 x3 x4:Nat} {S E:List DV} (s:AuS K C b i1 x2 x3 x4 i5 (b.aG.map aJ++[.agg [.int .i64 25,.int .i64 0,.nsl,.int .i64 q]]) S E) (o:DO)=>(show resolve true (K.push o) 199 (.sl x2 4 0 (b.aG.length+1))=some (eL true 4 aJ (auB b).aG)from by
  have:=Ie (xs:=b.aG) (ys:=[⟨tAu,[],q⟩]) (s.push o).r2 (fun y=>(qE y).1) (rA _) (Eq.refl (b.aG.length+1))
  rw[←hq]at this;exact this)
 have R3:=fun {K:aA} {x2 x3 x4:Nat} {A E:List DV} (s:AuS K C b i1 x2 x3 x4 i5 A (b.seen.map eID++[.agg [.int .i64 25,.int .i64 0]]) E) (o:DO)=>(show resolve true (K.push o) 199 (.sl x3 2 0 (b.seen.length+1))=some (eL true 2 eID (auB b).seen)from
  Ie (xs:=b.seen) (ys:=[tAu]) (s.push o).r3 (fun y=>(Ii y).1) (rS _) (Eq.refl (b.seen.length+1)))
 have a1:=aud1 H2 (by rw[hC2.lim];exact Nat.zero_le _) (R1 hC2) (R2 hC2) (R3 hC2) (fun o=>by
  have:=(hC2.push o).r4.toR.resolve (n:=199) true (fun y _=>(fW y).1) (by decide)
  rw[List.length_map]at this;exact this) (R5 hC2)
 have gC:=hC2.gC
 simp only[auC,la,ls,le,List.length_append,List.length_cons,List.length_nil,Nat.zero_add]at gC
 have hme:(auB b).me=b.me:=rfl
 rw[hme]at a1
 rw[a1]
 have hC3:=hC2.push (.arr 37 6 [.agg [.int .i64 b.me,.sl i1 1 0 b.aL.length,.sl i2' 4 0 (b.aG.length+1),.sl i3' 2 0 (b.seen.length+1),.sl i4 7 0 b.entries.length,.sl i5 3 0 b.bJ.length]] (some 1))
 generalize hH3:H2.push _=H3 at *
 have gC:=hC3.gC
 simp only[auC,la,ls,le,List.length_append,List.length_cons,List.length_nil,Nat.zero_add]at gC
 have g1:=hC3.g1
 have g3:=hC3.g3
 have lim:=hC3.lim
 have wf:=hC3.wf
 have lC3:C<H3.n:=cI gC
 have nC:¬C=H3.n:=by omega
 have n1:¬1=H3.n:=by omega
 have n3:¬3=H3.n:=by omega
 simp[Ir,gC,g1,g3,lim,wf,nC,n1,n3,turn]
 generalize hR:aU _ _ _ _ _ _=R
 rw[←le]at hR
 obtain⟨i4',K4,rfl,gC,lC4,wf,lim,g1,g3,hC4⟩:=(hC3.push _).entry (by rw[le];omega) hR
 clear hR
 simp only[auC,la,ls,le,List.length_append,List.length_cons,List.length_nil,Nat.zero_add]at gC hC4
 simp[gC,lim,wf,lC4,turn,le]
 generalize hH4:K4.set C _=H4 at *
 have rE:∀(u:Bool) h,([DV.agg [.int .i64 25,.int .i64 0,.int .i64 25,.int .i64 0,.nsl,.int .i64 (-1),.bool u]]:List DV).mapM (resolve true h 198)=some ([(⟨tAu,tAu,[],-1,u⟩:bB)].map aN):=fun _ _=>_root_.id rfl
 have R4:=fun(u:Bool) {K:aA} {x2 x3 x4:Nat} {A S:List DV} (s:AuS K C b i1 x2 x3 x4 i5 A S (b.entries.map aN++[.agg [.int .i64 25,.int .i64 0,.int .i64 25,.int .i64 0,.nsl,.int .i64 (-1),.bool u]])) (o:DO)=>(show resolve true (K.push o) 199 (.sl x4 7 0 (b.entries.length+1))=some (eL true 7 aN (auE b u).entries)from
  Ie (xs:=b.entries) (ys:=[⟨tAu,tAu,[],-1,u⟩]) (s.push o).r4 (fun y=>(fW y).1) (rE u _) (Eq.refl (b.entries.length+1)))
 have askL:Al (auE b false):=⟨fun e he=>by
   rcases List.mem_append.1 he with he|he
   ·exact ka.asked.unl e he
   ·rw[List.mem_singleton.1 he];exact cZ.nil.unlike,fun e he=>by
   rcases List.mem_append.1 he with he|he
   ·exact ka.asked.len e he
   ·rw[List.mem_singleton.1 he];exact Nat.zero_le _⟩
 have namL:Dx (auE b false):=⟨ka.sizedN.1,fun e he=>by
   rcases List.mem_append.1 he with he|he
   ·exact ka.sizedN.2 e he
   ·rw[List.mem_singleton.1 he];exact cZ.nil.names,ka.sizedN.3⟩
 have aud2:=fun(h:aA) hl r1 r2 r3 r4 r5=>Ra (h:=h) (t:=⟨true,true,true,true,true⟩) (b:=auE b false) (i1:=i1) (i2:=i2') (i3:=i3') (i4:=i4') (i5:=i5) (n1:=b.aL.length) (n2:=b.aG.length+1) (n3:=b.seen.length+1) (n4:=b.entries.length+1) (n5:=b.bJ.length) klz namL askL ka.ra hl r1 r2 r3 r4 r5
 have hv2:xD (auE b false)=iF [(fS,b.me)] 4:=by
  unfold xD
  rw[kl,Bool.and_false]
  rfl
 rw[hv2]at aud2
 have a2:=aud2 H4 (by rw[hC4.lim];exact Nat.zero_le _) (R1 hC4) (R2 hC4) (R3 hC4) (R4 false hC4) (R5 hC4)
 have hme2:∀u,(auE b u).me=b.me:=fun _=>rfl
 rw[hme2]at a2
 rw[a2]
 have hC5:=hC4.push (.arr 37 6 [.agg [.int .i64 b.me,.sl i1 1 0 b.aL.length,.sl i2' 4 0 (b.aG.length+1),.sl i3' 2 0 (b.seen.length+1),.sl i4' 7 0 (b.entries.length+1),.sl i5 3 0 b.bJ.length]] (some 1))
 generalize hH5:H4.push _=H5 at *
 have gC:=hC5.gC
 simp only[auC,la,ls,le,List.length_append,List.length_cons,List.length_nil,Nat.zero_add]at gC
 have lim:=hC5.lim
 have wf:=hC5.wf
 obtain⟨sp,cap,g4,h4,hC6⟩:=hC5.turnE (v':=.agg [.int .i64 25,.int .i64 0,.int .i64 25,.int .i64 0,.nsl,.int .i64 (-1),.bool true])
 rw[le]at h4 hC6
 have w1':IntKind.i64.wrap (((b.entries.length+1:Nat):Int)-1)=(b.entries.length:Int):=by rw[bE (by omega) (by omega)];omega
 simp at w1'
 have hix4:bY 7 (.sl i4' 7 0 (b.entries.length+1)) (.int .i64 (b.entries.length:Int))=some (.ptr i4' 7 b.entries.length 0):=by simp[bY,asI];omega
 have l4:i4'<H5.n:=cI g4
 have c4i:¬C=i4':=fun e=>qW hC5.r4 hC5.gC (by decide) e.symm
 have err_nn:=Wk [(fS,b.me)] 4
 simp[gC,lim,wf,g4,h4,hix4,w1',turn,err_nn]
 have Bm:((b.entries.map aN++[DV.agg [.int .i64 25,.int .i64 0,.int .i64 25,.int .i64 0,.nsl,.int .i64 (-1),.bool false]])++sp).set b.entries.length (.agg [.int .i64 25,.int .i64 0,.int .i64 25,.int .i64 0,.nsl,.int .i64 (-1),.bool true])=b.entries.map aN++DV.agg [.int .i64 25,.int .i64 0,.int .i64 25,.int .i64 0,.nsl,.int .i64 (-1),.bool true]::sp:=by
  rw[List.append_assoc,List.set_append_right _ _ (by rw[le];exact Nat.le_refl _),le,Nat.sub_self]
  rfl
 rw[Bm]at hC6
 generalize hH6:H5.set i4' _=H6 at *
 have gC6:=hC6.gC
 simp only[auC,la,ls,le,List.length_append,List.length_cons,List.length_nil,Nat.zero_add]at gC6
 have aud3:=fun(h:aA) hl r1 r2 r3 r4 r5=>Ra (h:=h) (t:=⟨true,true,true,true,true⟩) (b:=auE b true) (i1:=i1) (i2:=i2') (i3:=i3') (i4:=i4') (i5:=i5) (n1:=b.aL.length) (n2:=b.aG.length+1) (n3:=b.seen.length+1) (n4:=b.entries.length+1) (n5:=b.bJ.length) kez ke.sizedN ke.asked ke.ra hl r1 r2 r3 r4 r5
 rw[ke.audit]at aud3
 have a3:=aud3 H6 (by rw[hC6.lim];exact Nat.zero_le _) (R1 hC6) (R2 hC6) (R3 hC6) (R4 true hC6) (R5 hC6)
 rw[hme2]at a3
 have g16:=(hC6.push (.arr 37 6 [.agg [.int .i64 b.me,.sl i1 1 0 b.aL.length,.sl i2' 4 0 (b.aG.length+1),.sl i3' 2 0 (b.seen.length+1),.sl i4' 7 0 (b.entries.length+1),.sl i5 3 0 b.bJ.length]] (some 1))).g1
 have hKd:=s15 [(fS,b.me)] 4 (by simp)
 have hPl:=s18 fS b.me [] 4
 have hTr:=s17 [(fS,b.me)] 4 (by simp)
 have hSm:pcF D t16 [.isl false 1 [.str fS],.isl true 1 [.str [98,114,111,107,101,114]]]=some (.bool true):=d6
 have hTr':pcF D t17 [iF [(fS,b.me)] 4]=some (.isl false 1 [.str fS]):=hTr
 have hrI:∀h,resolve true h 200 (.isl false 1 [.str fS])=some (.isl false 1 [.str fS]):=fun _=>_root_.id rfl
 have LA:∀h,resolve true h 200 (iF [(fS,b.me)] 4)=some (iF [(fS,b.me)] 4):=fun h=>Ny _ _ true h 200 (by decide)
 have hRn:=s22
 simp[gC6]
 rw[a3]
 generalize hH7:H6.push _=H7 at *
 simp[Ir,e15,hKd,e18,hPl,e17,hTr',g16,e22,hRn,LA,hrI,e16,hSm,mkIsl]
end Go.Dm.Tc
