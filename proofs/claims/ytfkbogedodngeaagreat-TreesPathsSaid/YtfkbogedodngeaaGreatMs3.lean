/- A part of the proof. -/
import Derived.Test.YtfkbogedodngeaaGreatMs2
import Derived.Test.YtfkbogedodngeaaGreatMs1
import Derived.Test.YtfkbogedodngeaaGreatMs0
set_option linter.all false
set_option maxRecDepth 100000
namespace Go.Dm.Tc
variable {m:Int} {L:List (Int×Int)} {r:Int} {s:Int→FS} {W:Int→Int→List Bool} {con:Int→Int→Nat} {d:Int→Nat} {x:ID} {p:dY}
variable {h:aA} {nid bid q wid:Nat} {cr:DV} {X:List iY} {B:List aL} {Q:ID→List Msg}
theorem Upd.ext{a b c:aA}{F G:List Nat}(u:Upd a b F G)(e:Ext b.n b c):Upd a c F G :=
 ⟨Nat.le_trans u.n e.le,e.lim.trans u.lim,e.wf,fun i hi hn=>(e.get i (Nat.lt_of_lt_of_le hi u.n)).trans (u.old i hi hn),u.fp⟩
theorem FlM.quiet(F:FlM m L r x p B Q s W con d)(ok:bN m L)(h:iU Q (bO L)=[])(u v:Int):W u v=[]:=by
 by_cases hl:cI m L u v=true
 ·have hm:=(Pq ok).2 hl
  have:=List.filter_eq_nil_iff.1 h (u,v) hm
  rw[F.ws u v]at this
  cases hw:W u v with
  | nil=>rfl
  | cons k r=>rw[hw]at this;simp at this
 ·rw[F.I.wt,if_neg hl]
theorem FlM.busy(F:FlM m L r x p B Q s W con d){j:Nat}{u v:Int}(h:(iU Q (bO L))[j]?=some (u,v)):(u,v)∈bO L∧∃ k rest,W u v=k::rest:=by
 obtain⟨h1,h2⟩:=List.mem_filter.1 (List.mem_of_getElem? h)
 refine⟨h1,?_⟩
 rw[F.ws u v]at h2
 cases hw:W u v with
 | nil=>rw[hw]at h2;simp at h2
 | cons k r=>exact⟨k,r,rfl⟩
theorem AO(Q:ID→List Msg)(ways:List (Int×Int)):(iU Q ways).length≤ways.length:=List.length_filter_le ..
theorem FlM.sum_le(F:FlM m L r x p B Q s W con d):vX (bO L) con≤2*(bO L).length:=Ma fun w _=>F.I.con_le w.1 w.2
structure D3(h0 K:aA)(nid bid q wid:Nat)(cr:DV)(m:Int)(L:List (Int×Int))(X:List iY)(r:Int)(x:ID)(p:dY)(B:List aL)(Q:ID→List Msg)(s:Int→FS)(W:Int→Int→List Bool)(con:Int→Int→Nat)(d:Int→Nat):Prop where
 A:eV K nid bid q wid cr m L B Q X
 F:FlM m L r x p B Q s W con d
 U:Upd h0 K [bid,q,wid] [bid,q,wid]
theorem D3.ext{h0 K:aA}(T:D3 h0 K nid bid q wid cr m L X r x p B Q s W con d){H:aA}(e:Ext K.n K H):D3 h0 H nid bid q wid cr m L X r x p B Q s W con d:=⟨T.A.ext e,T.F,T.U.ext e⟩
end Go.Dm.Tc
/-
TreesGrow: the parents in the end;the law.
-/
namespace Go.Dm.Tc
variable {m:Int} {L:List (Int×Int)} {r:Int} {s:Int→FS} {W:Int→Int→List Bool} {con:Int→Int→Nat} {d:Int→Nat} {x:ID} {p:dY}
variable {h:aA} {nid bid q wid:Nat} {cr:DV} {X:List iY} {B:List aL} {Q:ID→List Msg}
theorem XK:pcF D t24 []=some (.bool true):=QY (n:=2000) (args:=[]) e24 rfl (by kernel_rfl)
theorem _root_.Go.Dm.OwnR.mid{lo:Nat}{h:aA}{v:DV}{ety sz:Nat}{xs:List DV}(w:OwnR lo h v ety sz xs):mapId v=none:=by
 cases w with
 | nil hv hx=>subst hv;rfl
 | arr id sp cap hv hg hl hi=>subst hv;rfl
theorem FlM.pars(F:FlM m L r x p B Q s W con d):B.map (wM x)=(gK m).map (Cq s):=by
 apply List.ext_getElem?
 intro i
 have hl:=F.len
 by_cases hi:i<m.toNat
 ·rw[List.getElem?_map,F.br i (by omega),gK,List.map_map,List.getElem?_map,List.getElem?_range hi]
  simp only[Option.map_some,Function.comp_apply,wM,Cq]
  cases s (i:Int)<;>simp[iJ]
 ·rw[List.getElem?_eq_none (by simp;omega),List.getElem?_eq_none (by simp[gK];omega)]
theorem NB(h7:m≤12)(v:Int)(t:FS):zS (iJ m L x p v t)∧dO ((iJ m L x p v t).aW.map (·.id)):=⟨(vT h7 v t).z,(vT h7 v t).ra⟩
theorem FlM.oks(F:FlM m L r x p B Q s W con d)(h7:m≤12):∀b∈B,zS b∧dO (b.aW.map (·.id)):=by
 intro b hb
 obtain⟨i,hi,rfl⟩:=List.mem_iff_getElem.1 hb
 have hl:=F.len
 have:=F.br i (by omega)
 rw[List.getElem?_eq_getElem hi]at this
 rw[Option.some.inj this]
 exact NB h7 _ _
theorem KU{n:Nat}{v:Nat}(h:v<n):(Fb m L n)[v]?=some (iJ m L x p v .fresh):=by
 unfold Fb
 rw[List.getElem?_map,List.getElem?_range h];rfl
end Go.Dm.Tc
/-
TreesPaths: links picked until nothing waits.
-/
namespace Go.Dm.Tc
variable {m:Int} {L:List (Int×Int)} {r:Int} {s:Int→FS} {W:Int→Int→List Bool} {con:Int→Int→Nat} {d:Int→Nat} {x:ID} {p:dY}
variable {h:aA} {nid bid q wid:Nat} {cr:DV} {X:List iY} {B:List aL} {Q:ID→List Msg}
set_option maxHeartbeats 4000000 in
theorem l5(P:Res→Prop)(ok:bN m L)(h7:m≤12)(hL:L.length≤20)(t:Bool)(picks:List Int)(h0:aA)(bH:h0.lim≤h0.n) :
  ∀(k i:Nat) (f:dV) (K:aA) (B:List aL) (Q:ID→List Msg) (s:Int→FS) (W:Int→Int→List Bool) (con:Int→Int→Nat) (d:Int→Nat),i+k=100→f 1=eL t 1 bF picks→f 10=.ptr nid 5 0 0→f 51=.int .i64 i →
  D3 h0 K nid bid q wid cr m L X r x p B Q s W con d→vX (bO L) con=i→NG s →
  (∀F H B Q s W con d,(∀j∈[3,9,10,12,13],F j=f j)→D3 h0 H nid bid q wid cr m L X r x p B Q s W con d→(∀u v,W u v=[])→NG s→P (run D 199 [] O8 F H)) →
  P (run D 199 [.block 0,.seq O8] (.loop JG) f K):=by
 intro k
 induction k with
 | zero =>
  intro i f K B Q s W con d hi f1 f10 f51 T hsum hng cQ
  have:=T.F.sum_le
  rw[nW]at this
  omega
 | succ k ih =>
  intro i f K B Q s W con d hi f1 f10 f51 T hsum hng cQ
  have aZ:(i:Int)<100:=by omega
  have Nv:IntKind.i64.wrap ((i:Int)+1)=(i:Int)+1:=bC (by omega) (by omega)
  have hwl:(bO L).length≤60:=by rw[nW];omega
  obtain⟨v,H,e1,o1,x1⟩:=q59 T.A.Q T.U.wf (by omega)
  have e1:=QX T.A e1
  have T1:=T.ext x1
  have lv:=o1.lenV
  have mv:=o1.mid
  have Oh:=AO Q (bO L)
  have hlK:H.lim≤H.n:=by rw[T1.U.lim];have:=T1.U.n;omega
  rw[aG JG.eq_1]
  by_cases hb:iU Q (bO L)=[]
  ·have hW:=T.F.quiet ok hb
   simp[f1,f10,f51,aZ,e1,lv,hb]
   refine cQ _ _ _ _ _ _ _ _ (fun j hj=>?_) T1 hW hng
   simp only[List.mem_cons,List.not_mem_nil,or_false]at hj
   rcases hj with rfl|rfl|rfl|rfl|rfl<;>simp
  ·have pF:0<(iU Q (bO L)).length:=List.length_pos_iff.2 hb
   have hW1:IntKind.i64.wrap (((iU Q (bO L)).length:Int)-1)=((iU Q (bO L)).length:Int)-1:=bC (by omega) (by omega)
   obtain⟨c,hc⟩:∃ c,c=if h:i<picks.length then cY picks[i] 0 (((iU Q (bO L)).length:Int)-1)else 0:=⟨_,rfl⟩
   have hcr:0≤c∧c≤((iU Q (bO L)).length:Int)-1:=by
    rw[hc];split
    ·exact gJ _ _ _ (by omega)
    ·omega
   obtain⟨j,hj⟩:∃ j:Nat,c=(j:Int):=⟨c.toNat,by omega⟩
   have Od:j<(iU Q (bO L)).length:=by omega
   obtain⟨⟨u,z⟩,huz⟩:∃ y,(iU Q (bO L))[j]?=some y:=⟨_,List.getElem?_eq_getElem Od⟩
   obtain⟨hway,kk,rest,hwk⟩:=T1.F.busy huz
   obtain⟨id,sp,cap,hv,Il,hlid,hloid,wP,hat⟩:=o1.index (i:=j) (x:=aQ (u,z)) (by rw[List.getElem?_map,huz];rfl) .i64
   obtain⟨K2,B',Q',s',W',d',e2,A3,F3,U3,hng3,hsr3,Hi⟩:=T1.F.pick ok h7 (by omega) T1.A T1.U.wf hlK hwk
   have T3:D3 h0 K2 nid bid q wid cr m L X r x p B' Q' s' W' (lI con u z) d':=⟨A3,F3,T1.U.trans U3⟩
   have hsum3:vX (bO L) (lI con u z)=i+1:=by rw[Jl ok.waysOf_nd hway];omega
   have fin2:∀F',F' 1=eL t 1 bF picks→(∀j∈[3,9,10,12,13],F' j=f j)→F' 51=.int .i64 ((i+1:Nat):Int)→P (run D 199 [.block 0,.seq O8] (.loop JG) F' K2):=fun F' g1 gj g51 =>
    ih (i+1) F' K2 _ _ _ _ _ _ (by omega) g1 ((gj 10 (by simp)).trans f10) g51 T3 hsum3 (hng3 hng) fun F H B Q s W con d a1 a2 a3 a4=>cQ F H B Q s W con d (fun j hj=>(a1 j hj).trans (gj j hj)) a2 a3 a4
   rw[hv]at e1 wP lv mv
   rw[List.length_map]at e1 wP lv mv
   have Ii:∀id j,jB 2 1 (.ptr id 2 j 0) (.int .i64 0)=some (.ptr id 2 j 0):=fun _ _=>rfl
   have Ih:∀id j,jB 2 1 (.ptr id 2 j 0) (.int .i64 1)=some (.ptr id 2 j 1):=fun _ _=>rfl
   simp only[aQ]at hat
   by_cases hp:i<picks.length
   ·have LK:=s8 picks[i] 0 (((iU Q (bO L)).length:Int)-1) (by omega) (by omega) (by omega)
    rw[dif_pos hp,hj]at hc
    rw[←hc]at LK
    simp[f1,f10,f51,aZ,e1,lv,hb,hp,hW1,e8,LK,wP,Il,hat,e2,turn,Nv,bF,hlK,Ii,Ih]
    generalize hF:upd _ 51 _=F'
    refine fin2 F' (by rw[←hF];simp[f1]) (fun j hj=>?_) (by rw[←hF];simp)
    rw[←hF]
    simp only[List.mem_cons,List.not_mem_nil,or_false]at hj
    rcases hj with rfl|rfl|rfl|rfl|rfl<;>simp
   ·rw[dif_neg hp,hj]at hc
    have hj0:j=0:=by omega
    subst hj0
    replace wP:aR 2 (.sl id 2 0 (iU Q (bO L)).length) (.int .i64 0)=some (.ptr id 2 0 0):=wP
    simp[f1,f10,f51,aZ,e1,lv,hb,hp,hW1,wP,Il,hat,e2,turn,Nv,bF,hlK,Ii,Ih]
    generalize hF:upd _ 51 _=F'
    refine fin2 F' (by rw[←hF];simp[f1]) (fun j hj=>?_) (by rw[←hF];simp)
    rw[←hF]
    simp only[List.mem_cons,List.not_mem_nil,or_false]at hj
    rcases hj with rfl|rfl|rfl|rfl|rfl<;>simp
end Go.Dm.Tc
/-
TreesPaths: paths,steps,who is dP whom;the law.
-/
namespace Go.Dm.Tc
variable {m:Int} {L:List (Int×Int)} {r:Int} {s:Int→FS} {W:Int→Int→List Bool} {con:Int→Int→Nat} {d:Int→Nat} {x:ID} {p:List Int}
variable {h:aA} {nid bid q wid:Nat} {cr:DV} {X:List iY} {B:List aL} {Q:ID→List Msg}
theorem Tp{a:Int}(ha:0≤a∧a<m){l:List Int}(h0:l[0]?=some a)(hl:∀(i:Nat) (u v:Int),l[i]?=some u→l[i+1]?=some v→cI m L u v=true):∀(i:Nat) (b:Int),l[i]?=some b→∃ e,(b,e)∈sI m L a∧e≤i
 | 0,b,h=>by rw[h0]at h;cases h;exact⟨0,Gj ha,by decide⟩
 | i+1,b,h=>by
  have aZ:=(List.getElem?_eq_some_iff.1 h).1
  have hu:l[i]?=some l[i]:=List.getElem?_eq_getElem (by omega)
  obtain⟨e,h1,h2⟩:=Tp ha h0 hl i _ hu
  obtain⟨e2,h3,h4⟩:=Ce ha h1 (hl i _ _ hu h)
  exact⟨e2,h3,by omega⟩
theorem YL(P:Res→Prop)(ok:bN m L)(h0:0≤m)(h7:m≤12)(hL:L.length≤1000)(l:List Int)(Ik:l.length≤1000)(Hi:∀(i:Nat) (u v:Int),l[i]?=some u→l[i+1]?=some v→cI m L u v=true)(K:aA)(gid:Nat)(gg:K.get gid=some (.arr 66 2 [.agg [.int .i64 m,eL false 2 aQ L]] (some 1))) :
  ∀(k i:Nat) (f:dV),i+k=max l.length 1→1≤i→f 9=.ptr gid 2 0 0→f 19=eL false 1 bF l→f 20=.int .i64 i →
  (∀F,(∀j∈[9,17,18],F j=f j)→P (run D 199 [] JH F K)) →
  P (run D 199 [.block 2,.seq JH] (.loop JF) f K):=by
 intro k
 induction k with
 | zero =>
  intro i f hi h1 f9 f19 f20 cQ
  have:¬((i:Int)<l.length):=by omega
  rw[aG JF.eq_1]
  simp[f19,f20,this]
  refine cQ _ fun j hj=>?_
  simp only[List.mem_cons,List.not_mem_nil,or_false]at hj
  rcases hj with rfl|rfl|rfl<;>simp
 | succ k ih =>
  intro i f hi h1 f9 f19 f20 cQ
  have aZ:i<l.length:=by omega
  have nI:(i:Int)<l.length:=by omega
  have Nv:IntKind.i64.wrap ((i:Int)+1)=(i:Int)+1:=bC (by omega) (by omega)
  have RX:IntKind.i64.wrap ((i:Int)-1)=((i-1:Nat):Int):=by rw[bC (by omega) (by omega)];omega
  obtain⟨u,hu⟩:∃ u,l[i-1]=u:=⟨_,rfl⟩
  obtain⟨v,hv⟩:∃ v,l[i]=v:=⟨_,rfl⟩
  have hg:cI m L u v=true:=Hi (i-1) u v (by rw[←hu];exact List.getElem?_eq_getElem (by omega)) (by rw[←hv,show i-1+1=i by omega];exact List.getElem?_eq_getElem aZ)
  have hLk:=s30 false m u v L (by omega) (ok.bD h0 h7 u)
  rw[hg]at hLk
  have Fs:i-1<l.length:=by omega
  have hf:∀h,resolve true h 199 (eL false 2 aQ L)=some (eL false 2 aQ L):=fun h=>dR _ _ _ _ true h 199 (by decide)
  rw[aG JF.eq_1]
  simp[f9,f19,f20,aZ,nI,gg,RX,Fs,hu,hv,e30,hLk,hf,Nv,bF]
  generalize hF:upd _ 20 _=F
  refine ih (i+1) F (by omega) (by omega) (by rw[←hF];simp[f9]) (by rw[←hF];simp[f19]) (by rw[←hF];simp) fun F' hF'=>cQ F' fun j hj=>?_
  rw[hF' j hj,←hF]
  simp only[List.mem_cons,List.not_mem_nil,or_false]at hj
  rcases hj with rfl|rfl|rfl<;>simp
theorem YK(P:Res→Prop)(S:List Fr)(pl:List Int)(hl:pl.length≤1000)(v:Int)(K:aA) :
  ∀(rest:List Int) (i:Nat) (f:dV) (mU:Bool),pl.drop i=rest→f 159=eL false 1 bF pl→f 160=.int .i64 pl.length→f 161=.int .i64 i→f 18=.int .i64 v→f 23=.bool mU →
  (∀F,(∀j∈[9,17,18,21,22,153,154],F j=f j)→F 23=.bool (mU || decide (v∈rest))→P (run D 199 S CQ F K)) →
  P (run D 199 (.block 6::.seq CQ::S) (.loop CP) f K):=by
 intro rest
 induction rest with
 | nil =>
  intro i f mU hd h1 h2 h3 h4 h5 cQ
  have hi:=iB hd
  have:¬(i<pl.length):=by omega
  rw[aG CP.eq_1]
  simp[h2,h3,this]
  refine cQ _ (fun j hj=>?_) (by simp[h5])
  simp only[List.mem_cons,List.not_mem_nil,or_false]at hj
  rcases hj with rfl|rfl|rfl|rfl|rfl|rfl|rfl<;>simp
 | cons y rest ih =>
  intro i f mU hd h1 h2 h3 h4 h5 cQ
  obtain⟨hi,he,pE⟩:=jF hd
  have Nv:IntKind.i64.wrap ((i:Int)+1)=(i:Int)+1:=bC (by omega) (by omega)
  have key:∀(F:dV),F 159=eL false 1 bF pl→F 160=.int .i64 pl.length→F 161=.int .i64 ((i+1:Nat):Int)→F 18=.int .i64 v→F 23=.bool (mU || decide (y=v))→(∀j∈[9,17,18,21,22,153,154],F j=f j)→P (run D 199 (.block 6::.seq CQ::S) (.loop CP) F K):=fun F g1 g2 g3 g4 g5 gj=>by
   refine ih (i+1) F _ pE g1 g2 g3 g4 g5 fun F' hF' h6=>cQ F' (fun j hj=>(hF' j hj).trans (gj j hj)) ?_
   rw[h6]
   congr 1
   by_cases e:v=y
   ·subst e;simp
   ·have:¬y=v:=fun e'=>e e'.symm
    simp[e,this]
  rw[aG CP.eq_1]
  have hbe:(y == v)=decide (y=v):=by by_cases e:y=v<;>simp[e]
  cases mU
  ·simp[h1,h2,h3,h4,h5,hi,he,Nv,bF]
   generalize hF:upd _ 161 _=F
   refine key F (by rw[←hF];simp[h1]) (by rw[←hF];simp[h2]) (by rw[←hF];simp) (by rw[←hF];simp[h4]) (by rw[←hF];simp[hbe]) fun j hj=>?_
   rw[←hF]
   simp only[List.mem_cons,List.not_mem_nil,or_false]at hj
   rcases hj with rfl|rfl|rfl|rfl|rfl|rfl|rfl<;>simp
  ·simp[h1,h2,h3,h4,h5,hi,he,Nv,bF]
   generalize hF:upd _ 161 _=F
   refine key F (by rw[←hF];simp[h1]) (by rw[←hF];simp[h2]) (by rw[←hF];simp) (by rw[←hF];simp[h4]) (by rw[←hF];simp) fun j hj=>?_
   rw[←hF]
   simp only[List.mem_cons,List.not_mem_nil,or_false]at hj
   rcases hj with rfl|rfl|rfl|rfl|rfl|rfl|rfl<;>simp
theorem YJ(P:Res→Prop)(S:List Fr)(bl:List Int)(hl:bl.length≤1000)(u:Int)(K:aA) :
  ∀(rest:List Int) (i:Nat) (f:dV) (sum:Nat) (inn:Bool),bl.drop i=rest→rest.Nodup→sum+rest.length≤1000000→f 174=eL false 1 bF bl→f 175=.int .i64 bl.length→f 176=.int .i64 i→f 22=.int .i64 u→f 21=.int .i64 sum→f 23=.bool inn→(u∈rest→inn=true) →
  (∀F,(∀j∈[9,17,18,22,153,154],F j=f j)→F 21=.int .i64 ((sum+if u∈rest then 1 else 0:Nat):Int)→F 23=.bool (if u∈rest then false else inn)→P (run D 199 S JJ F K)) →
  P (run D 199 (.block 8::.seq JJ::S) (.loop JE) f K):=by
 intro rest
 induction rest with
 | nil =>
  intro i f sum inn hd hn hs h1 h2 h3 h4 h5 h6 Fw cQ
  have hi:=iB hd
  have:¬(i<bl.length):=by omega
  rw[aG JE.eq_1]
  simp[h2,h3,this]
  refine cQ _ (fun j hj=>?_) (by simp[h5]) (by simp[h6])
  simp only[List.mem_cons,List.not_mem_nil,or_false]at hj
  rcases hj with rfl|rfl|rfl|rfl|rfl|rfl<;>simp
 | cons y rest ih =>
  intro i f sum inn hd hn hs h1 h2 h3 h4 h5 h6 Fw cQ
  obtain⟨hi,he,pE⟩:=jF hd
  obtain⟨n1,n2⟩:=List.nodup_cons.1 hn
  rw[List.length_cons]at hs
  have Nv:IntKind.i64.wrap ((i:Int)+1)=(i:Int)+1:=bC (by omega) (by omega)
  have hws:IntKind.i64.wrap ((sum:Int)+1)=(sum:Int)+1:=bC (by omega) (by omega)
  rw[aG JE.eq_1]
  by_cases e:y=u
  ·subst e
   have hinn:=Fw (List.mem_cons_self ..)
   subst hinn
   simp[h1,h2,h3,h4,h5,h6,hi,he,Nv,hws,bF]
   generalize hF:upd _ 176 _=F
   refine ih (i+1) F (sum+1) false pE n2 (by omega) (by rw[←hF];simp[h1]) (by rw[←hF];simp[h2]) (by rw[←hF];simp) (by rw[←hF];simp[h4]) (by rw[←hF];simp) (by rw[←hF];simp) (fun h=>absurd h n1) fun F' hF' k1 k2=>cQ F' (fun j hj=>?_) (by rw[k1];simp[n1]) (by rw[k2];simp[n1])
   rw[hF' j hj,←hF]
   simp only[List.mem_cons,List.not_mem_nil,or_false]at hj
   rcases hj with rfl|rfl|rfl|rfl|rfl|rfl<;>simp
  ·have hu:(u∈y::rest)↔u∈rest:=by
    rw[List.mem_cons];exact⟨fun h=>h.resolve_left fun e'=>e e'.symm,.inr⟩
   simp[h1,h2,h3,h4,h5,h6,hi,he,Nv,e,bF]
   generalize hF:upd _ 176 _=F
   refine ih (i+1) F sum inn pE n2 (by omega) (by rw[←hF];simp[h1]) (by rw[←hF];simp[h2]) (by rw[←hF];simp) (by rw[←hF];simp[h4]) (by rw[←hF];simp[h5]) (by rw[←hF];simp[h6]) (fun h=>Fw (hu.2 h)) fun F' hF' k1 k2=>cQ F' (fun j hj=>?_) (by rw[k1];simp only[hu]) (by rw[k2];simp only[hu])
   rw[hF' j hj,←hF]
   simp only[List.mem_cons,List.not_mem_nil,or_false]at hj
   rcases hj with rfl|rfl|rfl|rfl|rfl|rfl<;>simp
theorem AP(p:List Int)(v:Int):(mY p v).Nodup:=by
 unfold mY
 exact List.Pairwise.map _ (fun a b h e=>h (by omega)) (List.Pairwise.filter _ List.nodup_range)
theorem Yr{p:List Int}{v:Int}{i:Nat}(h:i<p.length):(i:Int)∈mY p v↔v∈pathP p p.length i:=by
 unfold mY
 rw[List.mem_map]
 constructor
 ·rintro⟨j,hj,e⟩
  have:j=i:=by omega
  subst this
  exact of_decide_eq_true (List.mem_filter.1 hj).2
 ·intro hv
  exact⟨i,List.mem_filter.2 ⟨List.mem_range.2 h,decide_eq_true hv⟩,rfl⟩
set_option maxHeartbeats 4000000 in
theorem YI(P:Res→Prop)(p:List Int)(hp:p.length≤100)(v:Int)(K:aA)(rv:DV)(lo:Nat)(o:OwnR lo K rv 3 1 (p.map bF)) :
  ∀(k i:Nat) (f:dV),i+k=p.length→f 17=rv→f 18=.int .i64 v→f 153=.int .i64 p.length→f 154=.int .i64 i→f 21=.int .i64 (mZ p v i).length →
  (∀F,F 17=rv→F 18=.int .i64 v→F 21=.int .i64 (mY p v).length→P (run D 199 [] O9 F K)) →
  P (run D 199 [.block 4,.seq O9] (.loop O7) f K):=by
 intro k
 induction k with
 | zero =>
  intro i f hi h17 h18 h153 h154 h21 cQ
  have e:i=p.length:=by omega
  subst e
  rw[aG O7.eq_1]
  simp[h153,h154]
  exact cQ _ (by simp[h17]) (by simp[h18]) (by simp[h21];rfl)
 | succ k ih =>
  intro i f hi h17 h18 h153 h154 h21 cQ
  have aZ:i<p.length:=by omega
  have Nv:IntKind.i64.wrap ((i:Int)+1)=(i:Int)+1:=bC (by omega) (by omega)
  have hPa:=fun t=>s27 t p i (by omega)
  have hBe:=fun t=>s26 t p v (by omega)
  have L3:=vC p p.length i
  have q2:resolve true K 200 rv=_:=o.resolve (n:=200) true (fun y _=>(dD y).1) (by decide)
  have Oh:(mY p v).length≤100:=Nat.le_trans (xV p v p.length) hp
  have Vi:=xV p v i
  have hm:=Yr (v:=v) aZ
  have hsucc:=Cm p v i
  rw[aG O7.eq_1]
  simp[h17,h18,h153,h154,h21,aZ,e27,hPa,q2]
  generalize hF:upd _ 161 _=F
  refine YK P [.block 5,.seq JI,.loop O7,.block 4,.seq O9] (pathP p p.length i) (by omega) v K (pathP p p.length i) 0 F false rfl (by rw[←hF];simp) (by rw[←hF];simp) (by rw[←hF];simp) (by rw[←hF];simp[h18]) (by rw[←hF];simp) fun F1 hF1 g23=>?_
  have a17:F1 17=rv:=by rw[hF1 17 (by simp),←hF];simp[h17]
  have a18:F1 18=.int .i64 v:=by rw[hF1 18 (by simp),←hF];simp[h18]
  have a21:F1 21=.int .i64 (mZ p v i).length:=by rw[hF1 21 (by simp),←hF];simp[h21]
  have a22:F1 22=.int .i64 i:=by rw[hF1 22 (by simp),←hF];simp
  have a153:F1 153=.int .i64 p.length:=by rw[hF1 153 (by simp),←hF];simp[h153]
  have a154:F1 154=.int .i64 i:=by rw[hF1 154 (by simp),←hF];simp[h154]
  rw[Bool.false_or]at g23
  simp[CQ,a17,a18,q2,e26,hBe]
  generalize hF2:upd _ 176 _=F2
  refine YJ P [.block 5,.seq JI,.loop O7,.block 4,.seq O9] (mY p v) (by omega) i K (mY p v) 0 F2 (mZ p v i).length (decide (v∈pathP p p.length i)) rfl (AP p v) (by omega) (by rw[←hF2];simp) (by rw[←hF2];simp) (by rw[←hF2];simp) (by rw[←hF2];simp[a22]) (by rw[←hF2];simp[a21]) (by rw[←hF2];simp[g23]) (fun h=>decide_eq_true (hm.1 h)) fun F3 hF3 b21 b23=>?_
  have c17:F3 17=rv:=by rw[hF3 17 (by simp),←hF2];simp[a17]
  have c18:F3 18=.int .i64 v:=by rw[hF3 18 (by simp),←hF2];simp[a18]
  have TB:F3 153=.int .i64 p.length:=by rw[hF3 153 (by simp),←hF2];simp[a153]
  have TA:F3 154=.int .i64 i:=by rw[hF3 154 (by simp),←hF2];simp[a154]
  have c23:F3 23=.bool false:=by
   rw[b23]
   by_cases e:(i:Int)∈mY p v
   ·rw[if_pos e]
   ·rw[if_neg e,decide_eq_false (fun h=>e (hm.2 h))]
  have c21:F3 21=.int .i64 (mZ p v (i+1)).length:=by
   rw[b21,hsucc]
   by_cases e:(i:Int)∈mY p v
   ·rw[if_pos e,if_pos (hm.1 e)];simp
   ·rw[if_neg e,if_neg (fun h=>e (hm.2 h))];simp
  simp[JJ,JI,c23,TA,Nv]
  generalize hF4:upd _ 154 _=F4
  exact ih (i+1) F4 (by omega) (by rw[←hF4];simp[c17]) (by rw[←hF4];simp[c18]) (by rw[←hF4];simp[TB]) (by rw[←hF4];simp) (by rw[←hF4];simp[c21]) cQ
set_option maxHeartbeats 4000000 in
theorem k5(ok:bN m L)(h1:1≤m)(h7:m≤12)(hL:L.length≤30)(hc:He m L)(hr:0≤r∧r<m)(b:Int)(xid gid:Nat)(h0:aA)(bH:h0.lim=0)(gx:h0.get xid=some (.arr 24 2 [.agg [.int .i64 x.bJ,.int .i64 x.seq]] (some 1)))(nx:xid ∉ [bid,q,wid])
  (gg:h0.get gid=some (.arr 66 2 [.agg [.int .i64 m,eL false 2 aQ L]] (some 1))) (ng:gid ∉ [bid,q,wid]) (F:dV) (H:aA) (B:List aL) (Q:ID→List Msg) (s:Int→FS) (W:Int→Int→List Bool) (con:Int→Int→Nat) (d:Int→Nat) (f3:F 3=.int .i64 b) (f9:F 9=.ptr gid 2 0 0) (f10:F 10=.ptr nid 5 0 0) (f12:F 12=.ptr xid 2 0 0) (f13:F 13=.int .i64 r) {pr:dY}
  (T:D3 h0 H nid bid q wid cr m L X r x pr B Q s W con d) (hW:∀u v,W u v=[]) (hN:NG s) :
  iK (fin [.t 8] (run D 199 [] O8 F H))=some (.bool true):=by
 have gxH:H.get xid=_:=(T.U.old xid (aC gx) nx).trans gx
 have ggH:H.get gid=_:=(T.U.old gid (aC gg) ng).trans gg
 have hB:(B.length:Int)=m:=by rw[T.F.len];omega
 have hlH:H.lim=0:=by rw[T.U.lim,bH]
 obtain⟨rv,K,e1,o1,x1⟩:=q23 x hB (by omega) (T.F.oks h7) T.A T.U.wf (by omega) (by omega)
 rw[T.F.pars]at o1
 have Tr:=T.F.I.tree hN hW hc hr
 have hmn:((gK m).map (Cq s)).length=m.toNat:=by simp[xB]
 generalize (gK m).map (Cq s)=p at o1 Tr hmn
 have ggK:K.get gid=_:=(x1.get gid (aC ggH)).trans ggH
 obtain⟨v,hv⟩:∃ v,v=cY b 0 (m-1):=⟨_,rfl⟩
 have SA:=gJ b 0 (m-1) (by omega)
 rw[←hv]at SA
 have hWi:=s8 b 0 (m-1) (by omega) (by omega) (by omega)
 rw[←hv]at hWi
 have RX:IntKind.i64.wrap (m-1)=m-1:=bC (by omega) (by omega)
 obtain⟨l,eN,SH,X9,hlast,Hi⟩:=Tr.pathP SA.1 (by omega)
 have hPa:=fun t=>s27 t p v (by omega)
 have hDe:=fun t=>s28 t p v (by omega)
 have hBe:=fun t=>s26 t p v (by omega)
 have L3:=vC p p.length v
 rw[SH]at hPa hDe L3
 have pF:0<l.length:=(List.getElem?_eq_some_iff.1 X9).1
 have hl0':l[0]=v:=(List.getElem?_eq_some_iff.1 X9).2
 have hlast':l[l.length-1]=r:=by
  rw[List.getLast?_eq_getElem?]at hlast
  exact(List.getElem?_eq_some_iff.1 hlast).2
 obtain⟨dd,hfar,hdd⟩:=Tp (L:=L) (by omega:0≤v∧v<m) X9 Hi (l.length-1) r (by rw[List.getElem?_eq_getElem (by omega),hlast'])
 have hFa:=s29 false ok (by omega) h7 (by omega) (by omega:0≤v∧v<m) hr hfar
 have q2:resolve true K 200 rv=_:=o1.resolve (n:=200) true (fun y _=>(dD y).1) (by decide)
 have hf:∀h,resolve true h 199 (eL false 2 aQ L)=some (eL false 2 aQ L):=fun h=>dR _ _ _ _ true h 199 (by decide)
 have hwl:IntKind.i64.wrap ((l.length:Int)-1)=((l.length-1:Nat):Int):=by rw[bC (by omega) (by omega)];omega
 have gO:=XK
 have Fs:l.length-1<l.length:=by omega
 have hfd:¬(((l.length-1:Nat):Int)<dd):=by omega
 have hcast:((l.length-1:Nat):Int)=(l.length:Int)-1:=by omega
 have cS:¬l=[]:=by rintro rfl;simp at pF
 simp only[←hcast]at hDe
 have hgl:∀h,l.getLast h=r:=fun h=>by rw[List.getLast_eq_getElem];exact hlast'
 simp[O8,cS,f3,f9,f10,f12,f13,gxH,ggK,e1,RX,e8,hWi,e27,hPa,q2,pF,hl0',hwl,Fs,hlast',hgl,e28,hDe,e29,hFa,hf,hfd,bF]
 generalize hF:upd _ 20 _=F1
 refine YL (fun r=>iK (fin [.t 8] r)=some (.bool true)) ok (by omega) h7 (by omega) l (by omega) Hi K gid ggK (max l.length 1-1) 1 F1 (by omega) (Nat.le_refl _) (by rw[←hF];simp[f9]) (by rw[←hF];simp) (by rw[←hF];simp) fun F2 hF2=>?_
 have a9:F2 9=.ptr gid 2 0 0:=by rw[hF2 9 (by simp),←hF];simp[f9]
 have a17:F2 17=rv:=by rw[hF2 17 (by simp),←hF];simp
 have a18:F2 18=.int .i64 v:=by rw[hF2 18 (by simp),←hF];simp
 simp[JH,a9,ggK]
 generalize hF3:upd _ 154 _=F3
 have hpm:m=(p.length:Int):=by omega
 refine YI (fun r=>iK (fin [.t 8] r)=some (.bool true)) p (by omega) v K rv _ o1 p.length 0 F3 (by omega) (by rw[←hF3];simp[a17]) (by rw[←hF3];simp[a18]) (by rw[←hF3];simp[hpm]) (by rw[←hF3];simp) (by rw[←hF3];simp[mZ]) fun F4 b17 b18 b21=>?_
 simp[O9,b17,b18,b21,q2,e26,hBe,e24,gO]
set_option maxHeartbeats 4000000 in
theorem s5(k:Ph)(picks:List Int)(a b:Int):pcF D t5 [vP k,eL false 1 bF picks,.int .i64 a,.int .i64 b]=some (.bool true):=by
 obtain⟨m,hm⟩:∃ m,m=cY k.n 1 7:=⟨_,rfl⟩
 have hrg:=gJ k.n 1 7 (by decide)
 rw[←hm]at hrg
 obtain⟨L,hL⟩:∃ L,L=sE m k.under k.more:=⟨_,rfl⟩
 have ok:bN m L:=by rw[hL];exact Y7 hrg.1 _ _
 have hLl:L.length≤14:=by rw[hL];exact Zo hrg.2 _ _
 have hc:He m L:=by rw[hL];exact Tf _ _
 have gR:BJ m L:=by rw[hL];exact Zp hrg.1 _ _
 have hG:=s17 false false k.n k.under k.more
 rw[←hm,←hL]at hG
 obtain⟨r,hr⟩:∃ r,r=cY a 0 (m-1):=⟨_,rfl⟩
 have hrr:=gJ a 0 (m-1) (by omega)
 rw[←hr]at hrr
 have hW:=s8 a 0 (m-1) (by omega) (by omega) (by omega)
 rw[←hr]at hW
 have RX:IntKind.i64.wrap (m-1)=m-1:=bC (by omega) (by omega)
 unfold pcF
 rw[aM _ _ _ _ (by simp[t5])]
 simp[t5,vP,e17,hG]
 generalize hH0:aA.push _ _=H0
 have h0n:H0.n=2:=by rw[←hH0];simp
 have h0l:H0.lim=0:=by rw[←hH0];simp
 have h0w:WF H0:=by rw[←hH0];simp
 have h01:H0.get 1=some (.arr 66 2 [.agg [.int .i64 m,eL false 2 aQ L]] (some 1)):=by rw[←hH0];simp
 obtain⟨bid,H1,e1,A1,x1,hb⟩:=q18 false ok hrg.1 (by omega) (by omega) gR H0 h0w (by omega)
 have l1:H1.lim=0:=by rw[x1.lim,h0l]
 have lnid:=aC A1.gn
 have lbid:bid<H1.n:=by obtain⟨sp,cap,g⟩:=A1.gb;exact aC g
 have lq:=aC A1.Q.gq
 have lw:H0.n+2<H1.n:=by obtain⟨ms,g,_⟩:=A1.Q.gw;exact aC g
 have g11:H1.get 1=_:=(x1.get 1 (by omega)).trans h01
 have w1:=x1.wf
 have xp:Ext H1.n H1 (H1.push (.arr 24 2 [.agg [.int .i64 0,.int .i64 3]] (some 1))):=(Ext.refl (Nat.le_refl _) w1).push
 obtain⟨H2,B',Q',e2,A2,F2,U2⟩:=FlM.advert (r:=r) (x:=⟨0,3⟩) (p:=[]) ok (by omega) (by omega) (by omega) (fun _=>rfl) (fun v hv=>KU (by omega)) (Fa m L m.toNat) (A1.ext xp) xp.wf (by simp;omega) (.inl ⟨rfl,rfl⟩)
 have gx2:H2.get H1.n=_:=(U2.old H1.n (by simp) (by simp;omega)).trans (show(H1.push (.arr 24 2 [.agg [.int .i64 0,.int .i64 3]] (some 1))).get H1.n=some (.arr 24 2 [.agg [.int .i64 0,.int .i64 3]] (some 1)) by simp)
 have g12:H2.get 1=_:=(U2.old 1 (by simp;omega) (by simp;omega)).trans ((xp.get 1 (by omega)).trans g11)
 have n1:¬1=H1.n:=by omega
 have l2:H2.lim=0:=by rw[U2.lim];exact l1
 simp[e1,qY,Gc,g11,n1,e8,RX,hW,w1,l1,e2,Sf]
 generalize hF:upd _ 51 _=F
 refine l5 (fun r=>iK (fin [.t 8] r)=some (.bool true)) (r:=r) (x:=⟨0,3⟩) (p:=[]) ok (by omega) (by omega) false picks H2 (by omega) 100 0 F H2 B' Q' _ _ _ _ (by omega) (by rw[←hF];simp) (by rw[←hF];simp) (by rw[←hF];simp) ⟨A2,F2,Upd.refl U2.wf _⟩ ?_ (NG.start r) ?_
 ·have:vX (bO L) (fun _ _=>0)≤0*(bO L).length:=Ma fun _ _=>Nat.le_refl _
  simp at this ⊢;omega
 ·intro F3 H3 B3 Q3 s3 W3 c3 d3 hj T3 hq3 hn3
  exact k5 ok (by omega) (by omega) (by omega) hc (by omega) b H1.n 1 H2 l2 gx2 (by simp;omega) g12 (by simp;omega) F3 H3 B3 Q3 s3 W3 c3 d3 (by rw[hj 3 (by simp),←hF];simp) (by rw[hj 9 (by simp),←hF];simp) (by rw[hj 10 (by simp),←hF];simp) (by rw[hj 12 (by simp),←hF];simp) (by rw[hj 13 (by simp),←hF];simp) T3 hq3 hn3
end Go.Dm.Tc
