/- A part of the proof. -/
import Derived.Test.YtfkbogedodngeaaGreatDoorMs2
import Derived.Test.YtfkbogedodngeaaGreatDoorMs0
import Derived.Test.YtfkbogedodngeaaGreatDoorMs1
set_option linter.all false
set_option maxRecDepth 100000
namespace Go.Dm.Tc
variable {h:aA} {nid bid q wid:Nat} {cr:DV} {m:Int} {L:List (Int×Int)} {B:List aK} {W:ID→List Msg} {X:List gX}
theorem m8(A:cU h nid bid q wid cr m L B W X)(wf:WF h)(hl:h.lim≤h.n)(t:Bool)(u:Int)(bN:List mX)(hw:(bA L).length≤1000000)(ho:∀o∈bN,(u,o.to)∈bA L)(dY:bN.length≤1000)(hX:X.length+bN.length≤100000)(hW:∀x,(W x).length+bN.length≤300000) :
  ∃ H cr',fc D 85 [.ptr nid 5 0 0,.int .i64 u,eL t 8 gC bN] h=some (.tup [],H)∧cU H nid bid q wid cr' m L B (fV u W bN) (X++gU u bN)∧qD h H [nid,q,wid] cr cr':=by
 rw[e85,aP _ _ _ _ (by simp[t85])]
 simp[t85]
 refine lp85 (fun r=>∃ H,fin [] r=some (.tup [],H)∧∃ cr',cU H nid bid q wid cr' m L B (fV u W bN) (X++gU u bN)∧qD h H [nid,q,wid] cr cr') t u bN hw ho dY bN.length 0 _ h W X cr (by simp) hX (by simp) (by simp) (by simp) (by simp) (by simp) A wf hl hW fun F H cr' A' U=>?_
 exact⟨H,by simp[J0,aT],cr',A',U⟩
theorem m9(A:cU h nid bid q wid cr m L B W X){h0:aA}(x0:Ext h.n h h0)(hl:h.lim≤h.n)(k:Nat){b b':aK}(hb:B[k]?=some b)(f:FuncId)(caps:List DV)(bN:List mX)
  {h1:aA} (fG:fc D f (aM .none b::caps) h0=some (.tup [aM .none b',eL false 8 gC bN],h1)) (x:Ext h.n h h1)
  (hw:(bA L).length≤1000000) (ho:∀o∈bN,((k:Int),o.to)∈bA L) (dY:bN.length≤1000) (hX:X.length+bN.length≤100000) (hW:∀x,(W x).length+bN.length≤300000) :
  ∃ H,fc D 77 [.ptr nid 5 0 0,.int .i64 k,.func f caps] h0=some (.nili,H)∧∃ cr',cU H nid bid q wid cr' m L (B.set k b') (fV k W bN) (X++gU k bN)∧qD h1 H [bid,nid,q,wid] cr cr':=by
 have A0:=A.ext x0
 have hT:=q87 A0.R (k:Int)
 have hk:=(List.getElem?_eq_some_iff.1 hb).1
 rw[decide_eq_true ⟨by omega,by omega⟩]at hT
 have gn:=A0.gn
 obtain⟨sp,cap,gb⟩:=A0.gb
 have gbo:=(x0.get _ (show bid<h.n from by obtain⟨_,_,g⟩:=A.gb;exact aB g)).symm.trans gb
 have gno:=(x0.get _ (aB A.gn)).symm.trans gn
 simp only[pN]at gn
 have yA:aS 6 (.sl bid 6 0 B.length) (.int .i64 (k:Int))=some (.ptr bid 6 k 0):=by simp[aS,asI,hk]
 have nR:(B.map (aM .none)++sp)[k]?=some (aM .none b):=by rw[List.getElem?_append_left (by simp;exact hk),List.getElem?_map,hb];rfl
 have ln:=aB gno
 have lb:=aB gbo
 have xl:=x.lim
 have xn:=x.le
 have A1:=A.ext x
 have gn1:=A1.gn
 simp only[pN]at gn1
 have gb1:=(x.get _ lb).trans gbo
 have n1:¬nid=h1.n:=by omega
 have n2:¬bid=h1.n:=by omega
 have wf1:=x.wf
 have lb1:=aB gb1
 have uH:h1.lim≤h1.n:=by omega
 rw[e77,aP _ _ _ _ (by simp[t77])]
 have nb:¬nid=bid:=by rintro rfl;rw[gb1]at gn1;simp at gn1
 have bn:¬bid=nid:=fun e=>nb e.symm
 have llb:=A1.lb
 have n5:¬h1.n=bid:=fun e=>n2 e.symm
 have key:∀{i:Nat} {o:DO},h1.get i=some o→i≠bid→∀(o1 o2:DO),((h1.set bid o1).push o2).get i=some o:=fun g cK o1 o2=>by
  have:=aB g
  rw[aG (by simp;omega),aN lb1 cK];exact g
 have A2:cU ((h1.set bid (.arr 37 6 ((B.map (aM .none)++sp).set k (aM .none b')) cap)).push (.arr 37 6 [aM .none b'] (some 1))) nid bid q wid cr m L (B.set k b') W X:=by
  have qq:=A1.Q.gq
  obtain⟨ms,qw,_⟩:=A1.Q.gw
  have WH:q≠bid:=by rintro rfl;rw[gb1]at qq;simp[qO]at qq
  have WC:wid≠bid:=by rintro rfl;rw[gb1]at qw;simp at qw
  refine⟨?_,⟨sp,cap,?_⟩,A1.Q.old rfl ?_ ?_,A1.ln,A1.lb,?_⟩
  ·simp only[List.length_set];exact key A1.gn nb _ _
  ·rw[aG (by simp;omega),bV wf1 gb1,List.set_append_left _ _ (by simp;exact hk),List.map_set]
  ·rw[key qq WH,qq]
  ·rw[key qw WC,qw]
  ·cases A1.cx with
   | nil hv hx=>exact .nil hv hx
   | arr id sp2 cap2 hv hg Fb hi=>exact .arr id sp2 cap2 hv (key hg (by rintro rfl;rw[gb1]at hg;simp at hg) _ _) Fb hi
 obtain⟨H,cr',e,A3,U⟩:=m8 A2 (wf1.set.push) (by simp;omega) false (k:Int) bN hw ho dY hX hW
 simp[t77,hT,gn,gb,n1,n2,yA,nR,fG,gn1,gb1,uH,llb,lb1,nb,bn,n5,e]
 refine⟨cr',A3,by have:=U.n;simp at this;omega,by rw[U.lim];rfl,U.wf,fun i hi hn ha=>?_,fun i hi ha=>U.at_ i (by simp;omega) ha⟩
 simp only[List.mem_cons,List.not_mem_nil,or_false,not_or]at hn
 rw[U.old i (by simp;omega) (by simp;exact hn.2) ha,aG (by simp;omega),aN lb1 hn.1]
theorem n9(A:cU h nid bid q wid cr m L B W X)(wf:WF h)(hl:h.lim≤h.n)(u:Int)(k:Nat){b b':aK}(hb:B[k]?=some b){ms:Msg}{r:List Msg}(hm:W ⟨u,k⟩=ms::r)(bN:List mX)(gs:Nat)(gl:List DV)
  (hs:pcF D t52 [aM .none b,.int .i64 u,gF ms]=some (.tup [aM .none b',eL false 8 gC bN,.isl false gs gl]))
  (hw:(bA L).length≤1000000) (ho:∀o∈bN,((k:Int),o.to)∈bA L) (dY:bN.length≤1000) (hX:X.length+bN.length≤100000) (hW:∀x,(W x).length+bN.length≤300000) :
  ∃ H cr',fc D 29 [.ptr nid 5 0 0,.int .i64 u,.int .i64 k] h=some (.tup [.isl false gs gl,.nili],H)∧cU H nid bid q wid cr' m L (B.set k b') (fV k (kX W ⟨u,k⟩ r) bN) (X++gU k bN)∧qD h H [bid,nid,q,wid] cr cr':=by
 obtain⟨h1,e1,Q1,U1⟩:=q84 A.Q wf hm
 have A1:=A.upd U1 Q1
 have hk:=(List.getElem?_eq_some_iff.1 hb).1
 have gn:=A.gn
 have gn1:=A1.gn
 obtain⟨sp,cap,gb1⟩:=A1.gb
 simp only[pN]at gn gn1
 have yA:aS 6 (.sl bid 6 0 B.length) (.int .i64 (k:Int))=some (.ptr bid 6 k 0):=by simp[aS,asI,hk]
 have nR:(B.map (aM .none)++sp)[k]?=some (aM .none b):=by rw[List.getElem?_append_left (by simp;exact hk),List.getElem?_map,hb];rfl
 have ln1:=aB gn1
 have lb1:=aB gb1
 have n1:¬nid=h1.n:=by omega
 have n2:¬bid=h1.n:=by omega
 have n3:¬nid=h1.n+1:=by omega
 have n4:¬bid=h1.n+1:=by omega
 have uH:h1.lim≤h1.n:=by rw[U1.lim];have:=U1.n;omega
 simp only[gF]at e1 hs
 have Fb:h1.lim≤h1.n+1:=by omega
 have llb:=A1.lb
 have nb:¬nid=bid:=by rintro rfl;rw[gb1]at gn1;simp at gn1
 have lb2:bid<h1.n+1:=by omega
 have wf1:=U1.wf
 have key:∀{i:Nat} {o:DO},h1.get i=some o→i≠bid→∀(o1 o2 o3:DO),(((h1.set bid o1).push o2).push o3).get i=some o:=fun g cK o1 o2 o3=>by
  have:=aB g
  rw[aG (by simp;omega),aG (by simp;omega),aN lb1 cK];exact g
 have A2:cU (((h1.set bid (.arr 37 6 ((B.map (aM .none)++sp).set k (aM .none b')) cap)).push (.arr 49 7 [.agg [.int .i64 ms.kind,.int .i64 ms.tree.bG,.int .i64 ms.tree.seq,.int .i64 ms.id.bG,.int .i64 ms.id.seq,eX ms.pred,eL false 4 JX ms.T5]] (some 1))).push (.arr 37 6 [aM .none b'] (some 1))) nid bid q wid cr m L (B.set k b') (kX W ⟨u,k⟩ r) X:=by
  have qq:=A1.Q.gq
  obtain⟨mm,qw,_⟩:=A1.Q.gw
  have WH:q≠bid:=by rintro rfl;rw[gb1]at qq;simp[qO]at qq
  have WC:wid≠bid:=by rintro rfl;rw[gb1]at qw;simp at qw
  refine⟨?_,⟨sp,cap,?_⟩,A1.Q.old rfl ?_ ?_,A1.ln,A1.lb,?_⟩
  ·simp only[List.length_set];exact key A1.gn nb _ _ _
  ·rw[aG (by simp;omega),aG (by simp;omega),bV wf1 gb1,List.set_append_left _ _ (by simp;exact hk),List.map_set]
  ·rw[key qq WH,qq]
  ·rw[key qw WC,qw]
  ·cases A1.cx with
   | nil hv hx=>exact .nil hv hx
   | arr id sp2 cap2 hv hg Fb hi=>exact .arr id sp2 cap2 hv (key hg (by rintro rfl;rw[gb1]at hg;simp at hg) _ _ _) Fb hi
 obtain⟨H,cr',e,A3,U⟩:=m8 A2 (wf1.set.push.push) (by simp;omega) false (k:Int) bN hw ho dY hX (fun x=>by
  have:=hW x
  simp only[kX];split
  ·rename_i hx;subst hx;rw[hm]at this;simp at this;omega
  ·exact this)
 rw[e29,aP _ _ _ _ (by simp[t29])]
 refine⟨H,cr',?_⟩
 simp[t29,gn,e1,gn1,gb1,n1,n2,n3,n4,yA,nR,e52,hs,uH,Fb,llb,lb1,lb2,nb,e,aT,turn,nN,vP]
 refine⟨A3,by have:=U.n;have:=U1.n;simp at *;omega,by rw[U.lim];simpa using U1.lim,U.wf,fun i hi hn ha=>?_,fun i hi ha=>U.at_ i (by have:=U1.n;simp;omega) ha⟩
 simp only[List.mem_cons,List.not_mem_nil,or_false,not_or]at hn
 have:=U1.n
 rw[U.old i (by simp;omega) (by simp;exact hn.2) ha,aG (by simp;omega),aG (by simp;omega),aN lb1 hn.1,U1.old i hi (by simp;exact hn.2.2)]
end Go.Dm.Tc
/-
NetLine: a subscription goes up a line,a publication comes down;plain.
-/
namespace Go.Dm.Tc
def yI(b r j:Nat):Nat:=if b≤r then b+j else b-j
def dI(b r:Nat):Nat:=if b≤r then r-b else b-r
def uI(M v:Nat):Bool:=decide (v+1<M)
def frI(b r j:Nat):Int:=if j=0 then -1 else(yI b r (j-1):Int)
variable {M b r:Nat}
theorem Fm(hb:b<M)(hr:r<M){j:Nat}(h:j≤dI b r):yI b r j<M:=by
 unfold yI dI at *;split at h<;>split<;>omega
theorem EE:yI b r 0=b:=by unfold yI;split<;>omega
theorem XV:yI b r (dI b r)=r:=by unfold yI dI;split<;>omega
theorem Fn{i j:Nat}(hi:i≤dI b r)(hj:j≤dI b r)(h:yI b r i=yI b r j):i=j:=by
 unfold yI dI at *;split at h<;>split at hi<;>split at hj<;>omega
theorem Fl{j:Nat}(hj:j≤dI b r):nZ r (yI b r j)=if j=dI b r then -1 else(yI b r (j+1):Int):=by
 unfold nZ yI dI at *;split at hj<;>(repeat' split)<;>omega
theorem wN(h2:2≤M)(hb:b<M)(hr:r<M){j:Nat}(h:j<dI b r):cP M (fM (M-1)) (yI b r j) (yI b r (j+1))=true:=by
 have h1:=Fm hb hr (j:=j) (by omega)
 have h3:=Fm hb hr (j:=j+1) (by omega)
 refine(rZ (by omega)).2 ⟨by omega,by omega,by omega,by omega,?_⟩
 unfold yI dI at *;split at h<;>(repeat' split)<;>omega
theorem sH(h2:2≤M)(h9:M≤9){v:Nat}(hv:v<M){x:Int}:x∈kL v (uI M v)↔cP M (fM (M-1)) v x=true:=by
 have:=Ui h9 hv
 unfold uI
 rw[←this,mP]
theorem MO(h2:2≤M){v:Nat}(h:v=0):uI M v=true:=by unfold uI;simp;omega
structure Up2(M b r i:Nat)(B:List aK)(Q:ID→List Msg):Prop where
 on:∀j,j≤i→j≤dI b r→B[yI b r j]?=some (brE (yI b r j) (uI M (yI b r j)) (nZ r (yI b r j)) (frI b r j))
 off:∀j,i<j→j≤dI b r→B[yI b r j]?=some (brI (yI b r j) (uI M (yI b r j)) (nZ r (yI b r j)))
 le:i≤dI b r
 qs:∀w,Q w=if i<dI b r∧w=⟨yI b r i,yI b r (i+1)⟩then[⟨3,xI,sI,[],[]⟩]else[]
theorem Tz(h2:2≤M)(h9:M≤9)(hb:b<M)(hr:r<M){j:Nat}(hj:j≤dI b r):nZ r (yI b r j)∈-1::kL (yI b r j) (uI M (yI b r j)):=by
 rw[Fl hj]
 split
 ·exact List.mem_cons_self ..
 ·exact List.mem_cons_of_mem _ ((sH h2 h9 (Fm hb hr hj)).2 (wN h2 hb hr (by omega)))
theorem S2(h2:2≤M)(h9:M≤9)(hb:b<M)(hr:r<M){j:Nat}(hj:j≤dI b r):frI b r j∈-1::kL (yI b r j) (uI M (yI b r j)):=by
 unfold frI
 split
 ·exact List.mem_cons_self ..
 ·refine List.mem_cons_of_mem _ ((sH h2 h9 (Fm hb hr hj)).2 ?_)
  rw[pX]
  have:=wN h2 hb hr (j:=j-1) (by omega)
  rw[show j-1+1=j by omega]at this
  exact this
theorem UY(hb:b<M)(hr:r<M){j:Nat}(hj:j≤dI b r)(h0:0<j):nZ r (yI b r j)≠(yI b r (j-1):Int):=by
 rw[Fl hj]
 split
 ·omega
 ·intro e
  have:=Fn (b:=b) (r:=r) (i:=j+1) (j:=j-1) (by omega) (by omega) (by omega)
  omega
theorem Up2.start(hb:b<M)(hr:r<M){B:List aK}{Q:ID→List Msg}(hB:∀v:Nat,v<M→B[v]?=some (brI v (uI M v) (nZ r v)))(hQ:∀w,Q w=[]) :
  Up2 M b r 0 (B.set b (brE b (uI M b) (nZ r b) (-1))) (fV b Q (nM 3 (nZ r b) sI)):=by
 have Ho:b<B.length:=(List.getElem?_eq_some_iff.1 (hB b hb)).1
 refine⟨fun j h1 h2=>?_,fun j h1 h2=>?_,Nat.zero_le _,fun w=>?_⟩
 ·have:j=0:=by omega
  subst this
  rw[EE,List.getElem?_set_self Ho]
  rfl
 ·have hy:=Fm hb hr h2
  have cK:b≠yI b r j:=fun e=>by
   have:=Fn (b:=b) (r:=r) (i:=0) (j:=j) (by omega) h2 (by rw[EE];exact e)
   omega
  rw[List.getElem?_set_ne cK]
  exact hB _ hy
 ·have hp:=Fl (b:=b) (r:=r) (j:=0) (Nat.zero_le _)
  rw[EE]at hp
  unfold nM
  by_cases h0:0=dI b r
  ·rw[if_pos h0]at hp
   rw[if_pos hp,if_neg (by omega)]
   exact hQ w
  ·rw[if_neg h0]at hp
   rw[if_neg (by omega),hp,EE]
   simp only[fV,kX,hQ,List.nil_append]
   by_cases e:w=⟨b,yI b r (0+1)⟩
   ·rw[if_pos e.symm,if_pos ⟨by omega,e⟩];rfl
   ·rw[if_neg (fun h=>e h.symm),if_neg (fun h=>e h.2)]
theorem Up2.next(hb:b<M)(hr:r<M){i:Nat}{B:List aK}{Q:ID→List Msg}(U:Up2 M b r i B Q)(hi:i<dI b r) :
  Up2 M b r (i+1) (B.set (yI b r (i+1)) (brE (yI b r (i+1)) (uI M (yI b r (i+1))) (nZ r (yI b r (i+1))) (yI b r i))) (fV (yI b r (i+1)) (kX Q ⟨yI b r i,yI b r (i+1)⟩ []) (nM 3 (nZ r (yI b r (i+1))) sI)):=by
 have Ho:=(List.getElem?_eq_some_iff.1 (U.off (i+1) (by omega) hi)).1
 have hQ2:∀w,kX Q ⟨yI b r i,yI b r (i+1)⟩ [] w=[]:=fun w=>by
  simp only[kX]
  split
  ·rfl
  ·rename_i h;rw[U.qs,if_neg (fun e=>h e.2.symm)]
 refine⟨fun j h1 h2=>?_,fun j h1 h2=>?_,hi,fun w=>?_⟩
 ·by_cases e:j=i+1
  ·subst e
   rw[List.getElem?_set_self Ho]
   unfold frI
   rw[if_neg (by omega)]
   rfl
  ·rw[List.getElem?_set_ne (fun h=>e (Fn h2 (by omega) h.symm))]
   exact U.on j (by omega) h2
 ·rw[List.getElem?_set_ne (fun h=>by have:=Fn (by omega) h2 h;omega)]
  exact U.off j (by omega) h2
 ·have hp:=Fl (b:=b) (r:=r) (j:=i+1) hi
  unfold nM
  by_cases h0:i+1=dI b r
  ·rw[if_pos h0]at hp
   rw[if_pos hp,if_neg (by omega)]
   exact hQ2 w
  ·rw[if_neg h0]at hp
   rw[if_neg (by omega),hp]
   simp only[fV]
   rw[hQ2,List.nil_append,kX,hQ2]
   by_cases e:w=⟨yI b r (i+1),yI b r (i+1+1)⟩
   ·rw[if_pos e.symm,if_pos ⟨by omega,e⟩];rfl
   ·rw[if_neg (fun h=>e h.symm),if_neg (fun h=>e h.2)]
structure Dn3(b r i:Nat)(Q:ID→List Msg)(n:Nat):Prop where
 le:i≤dI b r
 qs:∀w,Q w=if i<dI b r∧w=⟨yI b r (dI b r-i),yI b r (dI b r-i-1)⟩then[⟨5,xI,pI,[],[]⟩]else[]
 n:n=min (i+1) (dI b r)
theorem tX(u k to:Int)(y:ID):(gU u (nM k to y)).length=if k=5∧to≠-1 then 1 else 0:=by
 unfold gU nM
 by_cases h:to=-1
 ·simp[h]
 ·by_cases h5:k=5<;>simp[h,h5]
theorem Dn3.start{Q:ID→List Msg}(hQ:∀w,Q w=[]):Dn3 b r 0 (fV r Q (nM 5 (frI b r (dI b r)) pI)) (gU r (nM 5 (frI b r (dI b r)) pI)).length:=by
 refine⟨Nat.zero_le _,fun w=>?_,?_⟩
 ·unfold nM frI
  by_cases h0:dI b r=0
  ·rw[if_pos h0,if_pos rfl,if_neg (by omega)];exact hQ w
  ·rw[if_neg h0,if_neg (by omega)]
   simp only[fV,kX,hQ,List.nil_append]
   simp only[Nat.sub_zero,XV]
   by_cases e:w=⟨r,yI b r (dI b r-1)⟩
   ·rw[if_pos e.symm,if_pos ⟨by omega,e⟩];rfl
   ·rw[if_neg (fun h=>e h.symm),if_neg (fun h=>e h.2)]
 ·rw[tX]
  unfold frI
  by_cases h0:dI b r=0
  ·rw[h0];simp
  ·rw[if_neg h0,if_pos ⟨rfl,by omega⟩];omega
theorem Dn3.next{i n:Nat}{Q:ID→List Msg}(U:Dn3 b r i Q n)(hi:i<dI b r){j:Nat}(hj:j=dI b r-i-1) :
  Dn3 b r (i+1) (fV (yI b r j) (kX Q ⟨yI b r (dI b r-i),yI b r j⟩ []) (nM 5 (frI b r j) pI)) (n+(gU (yI b r j) (nM 5 (frI b r j) pI)).length):=by
 have hQ2:∀w,kX Q ⟨yI b r (dI b r-i),yI b r j⟩ [] w=[]:=fun w=>by
  simp only[kX]
  split
  ·rfl
  ·rename_i h;rw[U.qs,if_neg (fun e=>h (by rw[e.2,hj]))]
 have e1:dI b r-(i+1)=j:=by omega
 refine⟨hi,fun w=>?_,?_⟩
 ·rw[e1]
  unfold nM frI
  by_cases h0:j=0
  ·rw[if_pos h0,if_pos rfl,if_neg (by omega)];exact hQ2 w
  ·rw[if_neg h0,if_neg (by omega)]
   simp only[fV]
   rw[hQ2,List.nil_append,kX,hQ2]
   by_cases e:w=⟨yI b r j,yI b r (j-1)⟩
   ·rw[if_pos e.symm,if_pos ⟨by omega,e⟩];rfl
   ·rw[if_neg (fun h=>e h.symm),if_neg (fun h=>e h.2)]
 ·rw[tX,U.n]
  unfold frI
  by_cases h0:j=0
  ·rw[if_pos h0,if_neg (by simp)];omega
  ·rw[if_neg h0,if_pos ⟨rfl,by omega⟩];omega
end Go.Dm.Tc
/-
NetLine: what is drained,whatever is known of it.
-/
namespace Go.Dm.Tc
structure Jc(R E:Nat→Nat→aA→Prop)(c nid e:Nat):Prop where
 step:∀i g H,R i g H→i<100∧g≤i∧H.lim≤H.n∧H.get c=some (.arr e 1 [.ptr nid 5 0 0] (some 1)) ∧
  ∃ v H1 ws,fc D 27 [.ptr nid 5 0 0] H=some (v,H1)∧OwnR H.n H1 v 86 2 (ws.map aW)∧ws.length≤1000∧Ext H.n H H1 ∧
   (ws=[]→E i g H1)∧(∀u w rest,ws=(u,w)::rest→∃ gs gl H2,fc D 29 [.ptr nid 5 0 0,.int .i64 u,.int .i64 w] H1=some (.tup [.isl false gs gl,.nili],H2)∧gl.length≤1∧R (i+1) (g+gl.length) H2)
set_option maxHeartbeats 4000000 in
theorem dl35(P:Res→Prop){R E:Nat→Nat→aA→Prop}{c nid e:Nat}(dr:Jc R E c nid e) :
  ∀(k i g:Nat) (f:eN) (H:aA),i+k=100→f 0=.ptr c 1 0 0→f 3=.int .i64 i→f 4=.int .i64 g→f 8=.int .i64 i→R i g H →
  (∀i g F H',F 3=.int .i64 i→F 4=.int .i64 g→E i g H'→P (run D 39 [] O5 F H')) →
  P (run D 39 [.block 0,.seq O5] (.loop FE) f H):=by
 intro k
 induction k with
 | zero =>
  intro i g f H hi f0 f3 f4 f8 h dW
  have:=(dr.step i g H h).1
  omega
 | succ k ih =>
  intro i g f H hi f0 f3 f4 f8 h dW
  obtain⟨h1,h2,hl,gc,v,H1,ws,e1,o1,hws,x1,hE,hR⟩:=dr.step i g H h
  have aY:(i:Int)<100:=by omega
  have RI:IntKind.i64.wrap ((i:Int)+1)=(i:Int)+1:=bK (by omega) (by omega)
  have lv:=o1.lenV
  have gc1:=(x1.get c (aB gc)).trans gc
  have uH:H1.lim≤H1.n:=by rw[x1.lim];have:=x1.le;omega
  rw[aO FE.eq_1]
  cases ws with
  | nil =>
   simp[f0,f3,f4,f8,aY,gc,e1,lv]
   exact dW i g _ _ (by simp[f3]) (by simp[f4]) (hE rfl)
  | cons y rest =>
   obtain⟨u,w⟩:=y
   obtain⟨gs,gl,H2,e2,RU,hR2⟩:=hR u w rest rfl
   obtain⟨id,sp,cap,hv,Qh,hlid,hloid,yA,hat⟩:=o1.index (i:=0) (x:=aW (u,w)) rfl .i64
   have hwg:IntKind.i64.wrap ((g:Int)+gl.length)=(g:Int)+gl.length:=bK (by omega) (by omega)
   rw[hv]at e1 yA lv
   replace yA:aS 2 (.sl id 2 0 (rest.length+1)) (.int .i64 0)=some (.ptr id 2 0 0):=by simpa using yA
   simp only[aW]at hat
   have Pu:∀id j,jI 2 1 (.ptr id 2 j 0) (.int .i64 0)=some (.ptr id 2 j 0):=fun _ _=>rfl
   have Pt:∀id j,jI 2 1 (.ptr id 2 j 0) (.int .i64 1)=some (.ptr id 2 j 1):=fun _ _=>rfl
   have lw1:∀(h:aA) (gs:Nat) (x:List DV),lenV h 1 (.isl false gs x)=some (.int .i64 x.length):=fun _ _ _=>rfl
   have cK:¬((rest.length:Int)+1=0):=by omega
   simp[f0,f3,f4,f8,aY,gc,gc1,e1,lv,yA,Qh,hat,e2,uH,Pu,Pt,lw1,RI,hwg,turn,nN,vP,cK,aW]
   generalize hF:upd _ 8 _=F
   exact ih (i+1) (g+gl.length) F H2 (by omega) (by rw[←hF];simp[f0]) (by rw[←hF];simp) (by rw[←hF];simp) (by rw[←hF];simp) hR2 dW
theorem XE{R E:Nat→Nat→aA→Prop}{c nid e:Nat}(dr:Jc R E c nid e){H:aA}(h:R 0 0 H) :
  ∃ i g H',fc D 35 [.ptr c 1 0 0] H=some (.tup [.int .i64 (i:Nat),.int .i64 (g:Nat)],H')∧E i g H':=by
 rw[e35,aP _ _ _ _ (by simp[t35])]
 simp[t35]
 generalize hF:upd _ 8 _=F
 refine dl35 (fun r=>∃ i g H',fin [.t 1,.t 2] r=some (.tup [.int .i64 (i:Nat),.int .i64 (g:Nat)],H')∧E i g H') dr 100 0 0 F H (by omega) (by rw[←hF];simp) (by rw[←hF];simp) (by rw[←hF];simp) (by rw[←hF];simp) h fun i g F' H' g3 g4 hE=>⟨i,g,H',?_,hE⟩
 simp[O5,g3,g4,aT]
end Go.Dm.Tc
/-
NetLine: its three drains.
-/
namespace Go.Dm.Tc
variable {M b r:Nat} {nid bid q wid c e:Nat} {h1:aA} {cr0:DV}
def R1(M r nid bid q wid:Nat)(h1:aA)(i g:Nat)(H:aA):Prop:=g=0∧∃ B Q s W con d,QV h1 H nid bid q wid .nsl M (fM (M-1)) [] r xI [] B Q s W con d∧uK (bA (fM (M-1))) con=i∧NG s
def E1(M r nid bid q wid:Nat)(h1:aA)(i g:Nat)(H:aA):Prop:=g=0∧i+1=M∧∃ B Q,cU H nid bid q wid .nsl M (fM (M-1)) B Q []∧Upd h1 H [bid,q,wid] [bid,q,wid]∧(∀v:Nat,v<M→B[v]?=some (brI v (uI M v) (nZ r v)))∧∀w,Q w=[]
theorem dr1(h2:2≤M)(h9:M≤9)(hr:r<M)(bJ:h1.lim≤h1.n)(gc:h1.get c=some (.arr e 1 [.ptr nid 5 0 0] (some 1)))(hc:c ∉ [bid,q,wid]):Jc (R1 M r nid bid q wid h1) (E1 M r nid bid q wid h1) c nid e:=by
 refine⟨fun i g H hR=>?_⟩
 obtain⟨rfl,B,Q,s,W,con,d,T,hsum,WL⟩:=hR
 have ok:=Oo (M:=M) (by omega)
 have hL:=sA (M-1)
 have hwl:=iR (fM (M-1))
 have hcon:uK (bA (fM (M-1))) con≤2*(bA (fM (M-1))).length:=Nu fun w _=>T.F.I.con_le w.1 w.2
 have hl:H.lim≤H.n:=by rw[T.U.lim];have:=T.U.n;omega
 obtain⟨v,H1,eb,o1,x1⟩:=q82 T.A.Q T.U.wf (by omega)
 have eb:=Zu T.A eb
 have T1:=T.ext x1
 have Ho:(mD Q (bA (fM (M-1)))).length≤(bA (fM (M-1))).length:=List.length_filter_le ..
 refine⟨by omega,Nat.zero_le _,hl,(T.U.old c (aB gc) hc).trans gc,v,H1,_,eb,o1,by omega,x1,fun hb=>?_,fun u w rest hb=>?_⟩
 ·have hW:=T.F.quiet0 ok hb
  have hcount:=T.F.I.count WL hW Ae ok (by omega)
  refine⟨rfl,by omega,B,Q,T1.A,T1.U,fun v hv=>?_,fun w=>?_⟩
  ·rw[T.F.br v (by omega),OD (by omega) T.F.I WL hW (by omega) (v:=v) (by omega) (by omega)]
   unfold jM brI
   rw[Ui h9 hv];rfl
  ·obtain⟨a,z⟩:=w
   rw[T.F.ws,hW];rfl
 ·obtain⟨hway,kk,rest',hwk⟩:=T1.F.busy0 (j:=0) (u:=u) (v:=w) (by rw[hb];rfl)
  obtain⟨LP,Jh⟩:=T1.F.I.only WL hwk
  subst LP;subst Jh
  have uH:H1.lim≤H1.n:=by rw[T1.U.lim];have:=T1.U.n;omega
  obtain⟨K2,B',Q',s',W',d',e2,A3,F3,U3,hng3,hsr3,Xi⟩:=T1.F.pick ok (by omega) (by omega) T1.A T1.U.wf uH hwk
  exact⟨0,[],K2,e2,by simp,rfl,B',Q',s',W',mT con u w,d',⟨A3,F3,T1.U.trans U3⟩,by rw[Lg ok.waysOf_nd hway];omega,hng3 WL⟩
def R2(M b r nid bid q wid:Nat)(h1:aA)(cr0:DV)(i g:Nat)(H:aA):Prop:=g=0∧∃ B Q cr,cU H nid bid q wid cr M (fM (M-1)) B Q []∧qD h1 H [bid,nid,q,wid] cr0 cr∧Up2 M b r i B Q
def E2(M b r nid bid q wid:Nat)(h1:aA)(cr0:DV)(i g:Nat)(H:aA):Prop:=i=dI b r∧R2 M b r nid bid q wid h1 cr0 i g H
theorem Wq{Q:ID→List Msg}{ways:List (Int×Int)}(h:mD Q ways=[]){u v:Int}(hw:(u,v)∈ways):Q ⟨u,v⟩=[]:=by
 have:=List.filter_eq_nil_iff.1 h (u,v) hw
 cases hq:Q ⟨u,v⟩with
 | nil=>rfl
 | cons a l=>rw[hq]at this;simp at this
theorem Mq{Q:ID→List Msg}{ways rest:List (Int×Int)}{u v:Int}(h:mD Q ways=(u,v)::rest):Q ⟨u,v⟩≠[]:=by
 have hm:(u,v)∈mD Q ways:=by rw[h];exact List.mem_cons_self ..
 have:=(List.mem_filter.1 hm).2
 intro e
 rw[e]at this
 simp at this
theorem Ai(k to:Int)(y:ID){v:Nat}(h:to=-1∨cP M (fM (M-1)) v to=true)(ok:cN M (fM (M-1))):∀o∈nM k to y,((v:Int),o.to)∈bA (fM (M-1)):=by
 intro o ho
 unfold nM at ho
 split at ho
 ·simp at ho
 ·rename_i cK
  rw[List.mem_singleton]at ho;subst ho
  exact(pJ ok).2 (h.resolve_left cK)
theorem Aj(k to:Int)(y:ID):(nM k to y).length≤1:=by unfold nM;split<;>simp
theorem Am(h2:2≤M)(h9:M≤9){v:Nat}(hv:v<M){to:Int}(h:to∈-1::kL v (uI M v)):to=-1∨cP M (fM (M-1)) v to=true:=by
 rcases List.mem_cons.1 h with h|h
 ·exact .inl h
 ·exact .inr ((sH h2 h9 hv).1 h)
theorem dr2(h2:2≤M)(h9:M≤9)(hb:b<M)(hr:r<M)(bJ:h1.lim≤h1.n)(gc:h1.get c=some (.arr e 1 [.ptr nid 5 0 0] (some 1)))(hc:c ∉ [bid,nid,q,wid])(hca:hI cr0 c):Jc (R2 M b r nid bid q wid h1 cr0) (E2 M b r nid bid q wid h1 cr0) c nid e:=by
 refine⟨fun i g H hR=>?_⟩
 obtain⟨rfl,B,Q,cr,A,U,P⟩:=hR
 have ok:=Oo (M:=M) (by omega)
 have hL:=sA (M-1)
 have hwl:=iR (fM (M-1))
 have hl:H.lim≤H.n:=by rw[U.lim];have:=U.n;omega
 have hD:dI b r<M:=by unfold dI;split<;>omega
 obtain⟨v,H1,eb,o1,x1⟩:=q82 A.Q U.wf (by omega)
 have eb:=Zu A eb
 have A1:=A.ext x1
 have U1:=U.ext x1
 have Ho:(mD Q (bA (fM (M-1)))).length≤(bA (fM (M-1))).length:=List.length_filter_le ..
 refine⟨by have:=P.le;omega,Nat.zero_le _,hl,(U.old c (aB gc) hc hca).trans gc,v,H1,_,eb,o1,by omega,x1,fun WQ=>?_,fun u w rest WQ=>?_⟩
 ·have hi:i=dI b r:=by
   by_cases hi:i<dI b r
   ·have:=Wq WQ ((pJ ok).2 (wN h2 hb hr hi))
    rw[P.qs,if_pos ⟨hi,rfl⟩]at this
    cases this
   ·have:=P.le;omega
  exact⟨hi,rfl,B,Q,cr,A1,U1,P⟩
 ·have hq:=Mq WQ
  rw[P.qs]at hq
  by_cases hi:i<dI b r∧(⟨u,w⟩:ID)=⟨yI b r i,yI b r (i+1)⟩
  ·obtain⟨hi,hw⟩:=hi
   injection hw with hu hw
   subst hu;subst hw
   have hy:=Fm hb hr (j:=i+1) hi
   have uH:H1.lim≤H1.n:=by rw[U1.lim];have:=U1.n;omega
   have hpn:=Tz h2 h9 hb hr (j:=i+1) hi
   have hfn:=(sH h2 h9 hy).2 (by rw[pX];exact wN h2 hb hr hi)
   have hs:=Y4 (v:=yI b r (i+1)) (up:=uI M (yI b r (i+1))) (q:=nZ r (yI b r (i+1))) (f:=yI b r i) (by omega) (MO h2) hpn hfn (by have:=UY hb hr (j:=i+1) hi (by omega);simpa using this)
   have hol:=Aj 3 (nZ r (yI b r (i+1))) sI
   obtain⟨H2,cr',e2,A3,U3⟩:=n9 A1 U1.wf uH (yI b r i) (yI b r (i+1)) (P.off (i+1) (by omega) hi) (ms:=⟨3,xI,sI,[],[]⟩) (r:=[]) (by rw[P.qs,if_pos ⟨hi,rfl⟩]) _ _ _ hs (by omega) (Ai _ _ _ (Am h2 h9 hy hpn) ok) (by omega) (by simp;omega) (fun x=>by rw[P.qs];split<;>simp<;>omega)
   have tO:gU ((yI b r (i+1):Nat):Int) (nM 3 (nZ r (yI b r (i+1))) sI)=[]:=List.length_eq_zero_iff.1 (by rw[tX,if_neg (by omega)])
   rw[tO,List.append_nil]at A3
   exact⟨_,_,H2,e2,by simp,rfl,_,_,cr',A3,U1.trans U3,P.next hb hr hi⟩
  ·rw[if_neg hi]at hq
   exact absurd rfl hq
theorem S0(f:Int):∃ gs gl,CA f=.isl false gs gl∧gl.length=if f=-1 then 1 else 0:=by
 unfold CA
 split
 ·exact⟨_,_,rfl,rfl⟩
 ·exact⟨_,_,rfl,rfl⟩
def R3(M b r nid bid q wid:Nat)(h1:aA)(cr0:DV)(B:List aK)(i g:Nat)(H:aA):Prop:=(g=if i=dI b r∧0<dI b r then 1 else 0)∧∃ Q cr X,cU H nid bid q wid cr M (fM (M-1)) B Q X∧qD h1 H [bid,nid,q,wid] cr0 cr∧Dn3 b r i Q X.length
def E3(M b r nid bid q wid:Nat)(h1:aA)(cr0:DV)(B:List aK)(i g:Nat)(H:aA):Prop:=i=dI b r∧R3 M b r nid bid q wid h1 cr0 B i g H
theorem dr3(h2:2≤M)(h9:M≤9)(hb:b<M)(hr:r<M)(bJ:h1.lim≤h1.n)(gc:h1.get c=some (.arr e 1 [.ptr nid 5 0 0] (some 1)))(hc:c ∉ [bid,nid,q,wid])(hca:hI cr0 c){B:List aK}(hB:∀j,j≤dI b r→B[yI b r j]?=some (brE (yI b r j) (uI M (yI b r j)) (nZ r (yI b r j)) (frI b r j))):Jc (R3 M b r nid bid q wid h1 cr0 B) (E3 M b r nid bid q wid h1 cr0 B) c nid e:=by
 refine⟨fun i g H hR=>?_⟩
 obtain⟨hg,Q,cr,X,A,U,P⟩:=hR
 have ok:=Oo (M:=M) (by omega)
 have hL:=sA (M-1)
 have hwl:=iR (fM (M-1))
 have hl:H.lim≤H.n:=by rw[U.lim];have:=U.n;omega
 have hD:dI b r<M:=by unfold dI;split<;>omega
 obtain⟨v,H1,eb,o1,x1⟩:=q82 A.Q U.wf (by omega)
 have eb:=Zu A eb
 have A1:=A.ext x1
 have U1:=U.ext x1
 have Ho:(mD Q (bA (fM (M-1)))).length≤(bA (fM (M-1))).length:=List.length_filter_le ..
 have rR:g≤i:=by rw[hg];split<;>omega
 refine⟨by have:=P.le;omega,rR,hl,(U.old c (aB gc) hc hca).trans gc,v,H1,_,eb,o1,by omega,x1,fun WQ=>?_,fun u w rest WQ=>?_⟩
 ·have hi:i=dI b r:=by
   by_cases hi:i<dI b r
   ·have Xi:=wN h2 hb hr (j:=dI b r-i-1) (by omega)
    rw[show dI b r-i-1+1=dI b r-i by omega,pX]at Xi
    have:=Wq WQ ((pJ ok).2 Xi)
    rw[P.qs,if_pos ⟨hi,rfl⟩]at this
    cases this
   ·have:=P.le;omega
  exact⟨hi,hg,Q,cr,X,A1,U1,P⟩
 ·have hq:=Mq WQ
  rw[P.qs]at hq
  by_cases hi:i<dI b r∧(⟨u,w⟩:ID)=⟨yI b r (dI b r-i),yI b r (dI b r-i-1)⟩
  ·obtain⟨hi,hw⟩:=hi
   injection hw with hu hw
   subst hu;subst hw
   obtain⟨j,hj⟩:∃ j,j=dI b r-i-1:=⟨_,rfl⟩
   have hji:dI b r-i=j+1:=by omega
   have hjD:j<dI b r:=by omega
   rw[←hj]
   have hy:=Fm hb hr (j:=j) (by omega)
   have uH:H1.lim≤H1.n:=by rw[U1.lim];have:=U1.n;omega
   have hp:nZ r (yI b r j)=yI b r (dI b r-i):=by rw[Fl (by omega),if_neg (by omega),hji]
   have hqn:=(sH h2 h9 hy).2 (wN h2 hb hr hjD)
   rw[←hji]at hqn
   have hfn:=S2 h2 h9 hb hr (j:=j) (by omega)
   have cK:((yI b r (dI b r-i):Nat):Int)≠frI b r j:=by
    unfold frI
    split
    ·omega
    ·intro e
     have:=Fn (b:=b) (r:=r) (i:=dI b r-i) (j:=j-1) (by omega) (by omega) (by omega)
     omega
   have hs:=CW (v:=yI b r j) (up:=uI M (yI b r j)) (q:=yI b r (dI b r-i)) (f:=frI b r j) (by omega) (MO h2) hfn hqn cK
   obtain⟨gs,gl,Fe,RU⟩:=S0 (frI b r j)
   rw[Fe]at hs
   have hbj:=hB j (by omega)
   rw[hp]at hbj
   have hol:=Aj 5 (frI b r j) pI
   have hXl:=P.n
   obtain⟨H2,cr',e2,A3,U3⟩:=n9 A1 U1.wf uH (yI b r (dI b r-i)) (yI b r j) hbj (ms:=⟨5,xI,pI,[],[]⟩) (r:=[]) (by rw[P.qs,if_pos ⟨hi,by rw[←hj]⟩]) _ _ _ hs (by omega) (Ai _ _ _ (Am h2 h9 hy hfn) ok) (by omega) (by omega) (fun x=>by rw[P.qs];split<;>simp<;>omega)
   have sK:B.set (yI b r j) (brE (yI b r j) (uI M (yI b r j)) (yI b r (dI b r-i)) (frI b r j))=B:=by
    obtain⟨hk,he⟩:=List.getElem?_eq_some_iff.1 hbj
    rw[←he];exact List.set_getElem_self hk
   rw[sK]at A3
   have yV:frI b r j=-1↔j=0:=by
    unfold frI;split
    ·exact⟨fun _=>by assumption,fun _=>rfl⟩
    ·exact⟨fun h=>by omega,fun h=>by omega⟩
   refine⟨gs,gl,H2,e2,by rw[RU];split<;>omega,?_,_,cr',_,A3,U1.trans U3,?_⟩
   ·rw[hg,RU,if_neg (by omega)]
    by_cases h0:j=0
    ·rw[if_pos (yV.2 h0),if_pos (by omega)]
    ·rw[if_neg (fun h=>h0 (yV.1 h)),if_neg (by omega)]
   ·rw[List.length_append]
    exact P.next hi hj
  ·rw[if_neg hi]at hq
   exact absurd rfl hq
end Go.Dm.Tc
/-
NetLine: its graph El;its closing run.
-/
namespace Go.Dm.Tc
theorem u5:pcF D t34 []=some (.bool true):=UV (n:=5000) (args:=[]) e34 rfl (by kernel_rfl)
theorem VF{lo:Nat}{h:aA}{v:DV}{ety sz k lP dK:Nat}{xs ys:List DV}{cap:Option Nat}(w:OwnR lo h v ety sz xs)(g:h.get k=some (.arr lP dK ys cap))(cK:ety≠lP):hI v k:=by
 intro a b c e
 cases w with
 | nil hv _=>rw[hv]at e;cases e
 | arr id sp cp hv hg _ _ =>
  rw[hv]at e
  cases e
  rw[g]at hg
  cases hg
  exact cK rfl
structure RowH(h:aA)(m:Int)(L:List (Int×Int)):Prop where
 g0:∃ v,h.get 0=some (.arr 76 2 [.agg [.int .i64 m,v]] (some 1))∧OwnR 1 h v 86 2 (L.map aW)
 lim:h.lim=0
 n:1≤h.n
 wf:WF h
theorem l6(P:Res→Prop)(M:Nat)(h9:M≤9)(a b:Int) :
  ∀(k i:Nat) (f:eN) (h:aA),i+k+1=M→RowH h M (fM i)→f 1=.int .i64 a→f 2=.int .i64 b→f 7=.int .i64 M→f 8=.ptr 0 2 0 0→f 9=.int .i64 ((i:Int)+1) →
  (∀F H,RowH H M (fM (M-1))→F 1=.int .i64 a→F 2=.int .i64 b→F 7=.int .i64 M→F 8=.ptr 0 2 0 0→P (run D 151 [] V9 F H)) →
  P (run D 151 [.block 0,.seq V9] (.loop MW) f h):=by
 intro k
 induction k with
 | zero =>
  intro i f h hi hh h1 h2 h7 h8 sU dW
  have e1:M-1=i:=by omega
  have e2:¬(i:Int)+1<M:=by omega
  rw[aO MW.eq_1]
  simp[h7,sU,e2]
  exact dW _ _ (by rw[e1];exact hh) (by simp[h1]) (by simp[h2]) (by simp[h7]) (by simp[h8])
 | succ k ih =>
  intro i f h hi hh h1 h2 h7 h8 sU dW
  obtain⟨⟨v,g0,ov⟩,lim,hn,wf⟩:=hh
  have e2:(i:Int)+1<M:=by omega
  have w1:IntKind.i64.wrap (i:Int)=i:=bK (by omega) (by omega)
  have w2:IntKind.i64.wrap ((i:Int)+1+1)=(i:Int)+1+1:=bK (by omega) (by omega)
  have Rh:=sA i
  rw[aO MW.eq_1]
  simp[h7,h8,sU,e2,g0,w1]
  generalize hA:bF _ _ _ _ _ _=A
  obtain⟨v',K,rfl,ov',x',fr,_⟩:=Bo ov.push wf.push (by simp) (by simp[lim]) hA (by simp[Rh]<;>omega) (by decide)
  clear hA
  have i0:¬0=h.n:=by omega
  have G0:=fr 0 (by simp) (VF ov g0 (by decide))
  have Kl:=x'.lim
  have Kw:=x'.wf
  have Kn:=x'.le
  simp[i0,g0,lim]at G0 Kl
  have k0:0<K.n:=aB G0
  have ws:=ov'.aQ
  have we:=ov'.aF
  simp[h7,h8,sU,w1,G0,Kl,Kw,k0,ws,we,turn,w2]
  generalize hF:upd _ 9 _=F
  have ov2:OwnR 1 (K.set 0 (.arr 76 2 [.agg [.int .i64 M,v']] (some 1))) v' 86 2 ((fM (i+1)).map aW):=by
   have o1:OwnR 1 K v' 86 2 ((fM (i+1)).map aW):=by simpa[fM,aW]using ov'
   exact o1.aV Kw (by decide) k0
  exact ih (i+1) F (K.set 0 (.arr 76 2 [.agg [.int .i64 M,v']] (some 1))) (by omega) ⟨⟨v',by simp[Kw,k0],ov2⟩,by simp[Kl],by simp;omega,Kw.set⟩ (by rw[←hF];simp[h1]) (by rw[←hF];simp[h2]) (by rw[←hF];simp[h7]) (by rw[←hF];simp[h8]) (by rw[←hF];simp) dW
end Go.Dm.Tc
/-
Networks,part 22: a network of a graph whose links lie in memory.
-/
namespace Go.Dm.Tc
theorem yL(t:Bool)(h:aA)(l:Nat):∀n,resolve t (Dm.wl h l) n=resolve t h n:=by
 intro n
 induction n with
 | zero=>funext v;rfl
 | succ n ih =>
  funext v
  simp only[resolve,ih,SF]
theorem qv75{m:Int}{L:List (Int×Int)}(ok:cN m L)(hL:L.length≤100000)(h:aA)(wf:WF h)(bJ:h.lim≤h.n){lv:DV}(ol:OwnR 0 h lv 86 2 (L.map aW)) :
  ∃ h',fc D 75 [.agg [.int .i64 m,lv]] h=some (.ptr (h.n+2) 2 0 0,h')∧QAt h' (h.n+2) (h.n+1) (bA L) (fun _=>[])∧Ext h.n h h'∧h'.n=h.n+3:=by
 have hW:=s40 true ok hL
 have hf:∀K,Ext h.n h K→resolve true K 199 lv=some (eL true 2 aW L):=fun K x=>(ol.ext x).resolve true (fun y _=>(mL y).1) (by decide)
 have lst:=ol.aQ
 have lec:=ol.aF
 rw[e75,aP _ _ _ _ (by simp[t75])]
 have hf1:=hf _ ((Ext.refl (Nat.le_refl _) wf).push (o:=.arr 76 2 [.agg [.int .i64 m,lv]] (some 1)))
 simp[t75,e40,hW,yL,hf1,lst,lec]
 refine⟨⟨?_,⟨[],?_,⟨by simp,fun x=>.inl ⟨rfl,rfl⟩⟩⟩,?_,?_⟩,?_⟩
 ·simp[qO,wf]
 ·simp[wf];rfl
 ·simp;omega
 ·simp;omega
 ·exact(((Ext.refl (Nat.le_refl _) wf).push).push).push
theorem lv24(P:Res→Prop){m:Int}{L:List (Int×Int)}(ok:cN m L)(h0:0≤m)(h7:m≤12)(hL:L.length≤100000)(h:aA)(bJ:h.lim≤h.n){lv:DV}(ol:OwnR 0 h lv 86 2 (L.map aW))(gid q wid nid:Nat)(Qh:gid=h.n)(hnid:nid=h.n+4) :
  ∀(k i:Nat) (f:eN) (K:aA),(i+k:Nat)=m.toNat→f 1=.ptr gid 2 0 0→f 5=.ptr nid 5 0 0→f 20=.int .i64 m→f 21=.int .i64 i→h.n+5≤K.n→Ext h.n h K→K.get gid=some (.arr 76 2 [.agg [.int .i64 m,lv]] (some 1))→QAt K q wid (bA L) (fun _=>[])→q<h.n+4→wid<h.n+4 →
  (∃ v,K.get nid=some (.arr 162 5 [.agg [.int .i64 m,eL false 2 aW L,v,.ptr q 2 0 0,.nsl]] (some 1))∧OwnR (h.n+5) K v 37 6 ((Kb m L i).map (aM .none))) →
  (∀F H,F 5=.ptr nid 5 0 0→Ext h.n h H→QAt H q wid (bA L) (fun _=>[])→(∃ v,H.get nid=some (.arr 162 5 [.agg [.int .i64 m,eL false 2 aW L,v,.ptr q 2 0 0,.nsl]] (some 1))∧OwnR (h.n+5) H v 37 6 ((Kb m L m.toNat).map (aM .none)))→P (run D 40 [] O7 F H)) →
  P (run D 40 [.block 0,.seq O7] (.loop O6) f K):=by
 intro k
 induction k with
 | zero =>
  intro i f K hi f1 f5 f20 f21 hn x gg Q hq hw hv dW
  have him:i=m.toNat:=by omega
  have:¬((i:Int)<m):=by omega
  rw[aO O6.eq_1]
  simp[f20,f21,this]
  subst him
  exact dW _ _ (by simp[f5]) x Q hv
 | succ k ih =>
  intro i f K hi f1 f5 f20 f21 hn x gg Q hq hw hv dW
  obtain⟨v,gn,ow⟩:=hv
  have aY:(i:Int)<m:=by omega
  have RI:IntKind.i64.wrap ((i:Int)+1)=(i:Int)+1:=bK (by omega) (by omega)
  have hN:=RF true (i:Int) ok h0 h7 (by omega:L.length≤1000000)
  have hA':=k9 false (i:Int) (tI m L i) (by have:=wX m L h7 i;omega)
  have hf:∀K,Ext h.n h K→resolve true K 199 lv=some (eL true 2 aW L):=fun K x=>(ol.ext x).resolve true (fun y _=>(mL y).1) (by decide)
  have lst:=ol.aQ
  have lec:=ol.aF
  have Qd:K.lim≤h.n:=by rw[x.lim];exact bJ
  have wf:=x.wf
  have n1:¬nid=K.n:=by omega
  have n2:¬gid=K.n:=by omega
  have nK:nid<K.n:=by omega
  have st:=ow.aQ
  have ec:=ow.aF
  have hnear:(eE m L (i:Int)).length≤12:=wX m L h7 i
  rw[aO O6.eq_1]
  simp[f1,f5,f20,f21,aY,gg,gn,ec,e76,hN,yL,hf K x,e64,hA',n1,n2]
  generalize hA:bF _ _ _ _ _ _=A
  obtain⟨v',K',rfl,Pz,uL,_⟩:=ow.push.append wf.push (by simp;omega) (by simp;omega) hA (by simp[Gz];omega) (by decide)
  clear hA
  have gn':K'.get nid=some (.arr 162 5 [.agg [.int .i64 m,eL false 2 aW L,v,.ptr q 2 0 0,.nsl]] (some 1)):=by
   rw[uL.get nid (by omega),aG nK];exact gn
  have wf':=uL.wf
  have xt:Ext h.n h K':=(x.push).trans (uL.lower (by omega))
  have lm':K'.lim≤h.n:=by rw[xt.lim];exact bJ
  have st':=Pz.aQ
  have ec':=Pz.aF
  have nK':nid<K'.n:=aB gn'
  have lm2:K'.lim≤nid:=by omega
  have gg':K'.get gid=some (.arr 76 2 [.agg [.int .i64 m,lv]] (some 1)):=by
   rw[uL.get gid (by omega),aG (aB gg)];exact gg
  have Q':QAt K' q wid (bA L) (fun _=>[]):=by
   have qq:=Q.gq
   obtain⟨ms,qw,_⟩:=Q.gw
   exact Q.old (xt.lim.trans x.lim.symm) (by rw[uL.get q (by omega),aG (aB qq)]) (by rw[uL.get wid (by omega),aG (aB qw)])
  simp[f5,gn',st',ec',lm2,turn,f21,RI]
  generalize hF:upd _ 21 _=F
  refine ih (i+1) F _ (by omega) (by rw[←hF];simp[f1]) (by rw[←hF];simp[f5]) (by rw[←hF];simp[f20]) (by rw[←hF];simp) (by have:=uL.le;simp;omega) (xt.set (by omega) nK') ?_ ?_ hq hw ⟨v',bV wf' gn',?_⟩ dW
  ·rw[aN nK' (by omega)];exact gg'
  ·exact Q'.old rfl (aN nK' (by omega)) (aN nK' (by omega))
  ·have:=Pz.aV (o:=.arr 162 5 [.agg [.int .i64 m,eL false 2 aW L,v',.ptr q 2 0 0,.nsl]] (some 1)) wf' (show nid<h.n+5 by omega) nK'
   rw[BD,List.map_append]
   exact this
theorem qv24{m:Int}{L:List (Int×Int)}(ok:cN m L)(h1:1≤m)(h7:m≤12)(hL:L.length≤200)(iD:LI m L)(h:aA)(wf:WF h)(bJ:h.lim≤h.n){lv:DV}(ol:OwnR 0 h lv 86 2 (L.map aW)) :
  ∃ bid h',fc D 24 [.agg [.int .i64 m,lv]] h=some (.tup [.ptr (h.n+4) 5 0 0,.nili],h')∧cU h' (h.n+4) bid (h.n+3) (h.n+2) .nsl m L (Kb m L m.toNat) (fun _=>[]) []∧Ext h.n h h'∧h.n≤bid:=by
 have hC:=s73 true ok h1 h7 hL iD
 have hcp:=s74 true m L (by omega)
 have hf:∀K,Ext h.n h K→resolve true K 199 lv=some (eL true 2 aW L):=fun K x=>(ol.ext x).resolve true (fun y _=>(mL y).1) (by decide)
 have lst:=ol.aQ
 have lec:=ol.aF
 obtain⟨K,hq,Q,xq,nq⟩:=qv75 ok (by omega) (h.push (.arr 76 2 [.agg [.int .i64 m,lv]] (some 1))) wf.push (by simp;omega) ol.push
 simp at hq Q xq nq
 have gg:=(xq.get h.n (by omega)).trans (show(h.push (.arr 76 2 [.agg [.int .i64 m,lv]] (some 1))).get h.n=some (.arr 76 2 [.agg [.int .i64 m,lv]] (some 1)) by simp)
 have xh:Ext h.n h K:=((Ext.refl (Nat.le_refl _) wf).push).trans (xq.lower (by omega))
 rw[e24,aP _ _ _ _ (by simp[t24])]
 have ng:¬h.n=K.n:=by omega
 have hf1:=hf _ ((Ext.refl (Nat.le_refl _) wf).push (o:=.arr 76 2 [.agg [.int .i64 m,lv]] (some 1)))
 simp[t24,e73,hC,yL,hf1,lst,lec,Al,e74,hcp,hq,gg,ng,nq]
 have e2:h.n+1+2=h.n+3:=rfl
 have e3:h.n+1+3=h.n+4:=rfl
 have e1:h.n+1+1=h.n+2:=rfl
 rw[e1,e2]at Q
 rw[e2,e3]
 generalize hF:upd _ 21 _=F
 have gg2:(K.push (.arr 162 5 [.agg [.int .i64 m,eL false 2 aW L,.nsl,.ptr (h.n+3) 2 0 0,.nsl]] (some 1))).get h.n=some (.arr 76 2 [.agg [.int .i64 m,lv]] (some 1)):=by
  rw[aG (by omega)];exact gg
 have nK:K.n=h.n+4:=by omega
 have gnn:(K.push (.arr 162 5 [.agg [.int .i64 m,eL false 2 aW L,.nsl,.ptr (h.n+3) 2 0 0,.nsl]] (some 1))).get (h.n+4)=some (.arr 162 5 [.agg [.int .i64 m,eL false 2 aW L,.nsl,.ptr (h.n+3) 2 0 0,.nsl]] (some 1)):=by
  rw[←nK];simp
 have QP:QAt (K.push (.arr 162 5 [.agg [.int .i64 m,eL false 2 aW L,.nsl,.ptr (h.n+3) 2 0 0,.nsl]] (some 1))) (h.n+3) (h.n+2) (bA L) (fun _=>[]):=by
  have qq:=Q.gq
  obtain⟨ms,qw,_⟩:=Q.gw
  exact Q.old rfl (aG (aB qq)) (aG (aB qw))
 refine lv24 (fun r=>∃ bid h',fin [.t 2,.t 3] r=some (.tup [.ptr (h.n+4) 5 0 0,.nili],h')∧cU h' (h.n+4) bid (h.n+3) (h.n+2) .nsl m L (Kb m L m.toNat) (fun _=>[]) []∧Ext h.n h h'∧h.n≤bid) ok (by omega) h7 (by omega) h bJ ol h.n (h.n+3) (h.n+2) (h.n+4) rfl rfl m.toNat 0 F _ (by omega) (by rw[←hF];simp) (by rw[←hF];simp) (by rw[←hF];simp) (by rw[←hF];simp) (by simp;omega) xh.push gg2 QP (by omega) (by omega) ⟨.nsl,gnn,.nil rfl rfl⟩ ?_
 intro F2 H f5 x2 Q2 ⟨v,gn,ow⟩
 cases ow with
 | nil hv hx =>
  exfalso
  have:=congrArg List.length hx
  rw[List.length_map,Gz]at this
  simp only[List.length_nil]at this
  omega
 | arr bid sp cap hv hg hl dY =>
  have hlh:H.lim≤h.n:=by rw[x2.lim];exact bJ
  refine⟨bid,H,by simp[O7,f5,aT],⟨?_,⟨sp,cap,hg⟩,Q2,by omega,hl,.nil rfl rfl⟩,x2,by omega⟩
  rw[gn,hv,List.length_map]
  rfl
end Go.Dm.Tc
/-
Networks,part 20: a subscription El,a publication put in.
-/
namespace Go.Dm.Tc
variable {h:aA} {nid bid q wid:Nat} {cr:DV} {m:Int} {L:List (Int×Int)} {B:List aK} {W:ID→List Msg} {X:List gX}
theorem qc94(b b':aK)(xc xd:Int)(bN:List mX)(hF:pcF D t95 [aM .none b,.agg [.int .i64 xc,.int .i64 xd],.isl false 0 []]=some (.tup [aM .none b',eL false 8 gC bN]))(h:aA)(i1 i2:Nat)(wf:WF h)(hl:h.lim≤h.n)(e1 e2:Nat)
  (g1:h.get i1=some (.arr e1 2 [.agg [.int .i64 xc,.int .i64 xd]] (some 1))) (g2:h.get i2=some (.arr e2 1 [.nsl] (some 1))) :
  ∃ H,fc D 94 [aM .none b,.ptr i1 2 0 0,.ptr i2 1 0 0] h=some (.tup [aM .none b',eL false 8 gC bN],H)∧Ext h.n h H:=by
 have l1:=aB g1
 have l2:=aB g2
 have m1:¬i1=h.n:=by omega
 have m2:¬i2=h.n:=by omega
 have m3:¬i1=h.n+1:=by omega
 have m4:¬i2=h.n+1:=by omega
 have uH:h.lim≤h.n+1:=by omega
 rw[e94,aP _ _ _ _ (by simp[t94])]
 simp[t94,g1,g2,m1,m2,m3,m4,e95,hF,hl,uH,wf,turn,Bb,aT]
 exact((Ext.refl (Nat.le_refl _) wf).push).push
theorem qc36(A:cU h nid bid q wid cr m L B W X)(wf:WF h)(hl:h.lim≤h.n)(k:Nat){b b':aK}(hb:B[k]?=some b)(xc xd:Int)(bN:List mX)(hF:pcF D t95 [aM .none b,.agg [.int .i64 xc,.int .i64 xd],.isl false 0 []]=some (.tup [aM .none b',eL false 8 gC bN]))
  (hw:(bA L).length≤1000000) (ho:∀o∈bN,((k:Int),o.to)∈bA L) (dY:bN.length≤1000) (hX:X.length+bN.length≤100000) (hW:∀x,(W x).length+bN.length≤300000) :
  ∃ H,fc D 36 [.ptr nid 5 0 0,.int .i64 k,.agg [.int .i64 xc,.int .i64 xd],.nsl] h=some (.nili,H)∧∃ cr',cU H nid bid q wid cr' m L (B.set k b') (fV k W bN) (X++gU k bN)∧qD h H [bid,nid,q,wid] cr cr':=by
 have x:Ext h.n h ((h.push (.arr 45 2 [.agg [.int .i64 xc,.int .i64 xd]] (some 1))).push (.arr 46 1 [.nsl] (some 1))):=((Ext.refl (Nat.le_refl _) wf).push).push
 obtain⟨h1,e1,x1⟩:=qc94 b b' xc xd bN hF _ h.n (h.n+1) x.wf (by have:=x.lim;have:=x.le;simp;omega) 45 46 (by simp[wf]) (by simp[wf])
 have x2:Ext h.n h h1:=⟨by have:=x1.le;simp at this;omega,x1.lim.trans x.lim,fun i hi=>(x1.get i (by simp;omega)).trans (x.get i hi),x1.wf⟩
 obtain⟨H,e2,cr',A2,U⟩:=m9 A x hl k hb _ _ _ e1 x2 hw ho dY hX hW
 rw[e36,aP _ _ _ _ (by simp[t36])]
 simp[t36,e2,turn,aT]
 refine⟨cr',A2,Nat.le_trans x2.le U.n,by rw[U.lim,x2.lim],U.wf,fun i hi hn ha=>?_,fun i hi ha=>U.at_ i (Nat.lt_of_lt_of_le hi x2.le) ha⟩
 rw[U.old i (Nat.lt_of_lt_of_le hi x2.le) hn ha,x2.get i hi]
theorem qc96(b:aK)(tc td xc xd:Int)(bN:List mX)(gs:Nat)(gl:List DV)(hF:pcF D t97 [aM .none b,.int .i64 (-1),.agg [.int .i64 5,.int .i64 tc,.int .i64 td,.int .i64 xc,.int .i64 xd,.isl false 0 [],.isl false 0 []]]=some (.tup [eL false 8 gC bN,.isl false gs gl]))(h:aA)(i1 i2 i3 i4:Nat)(wf:WF h)(e1 e2 e3 e4:Nat)(lo:Nat)(dY:lo≤i4)(hl:h.lim≤lo)
  (g1:h.get i1=some (.arr e1 2 [.agg [.int .i64 tc,.int .i64 td]] (some 1))) (g2:h.get i2=some (.arr e2 2 [.agg [.int .i64 xc,.int .i64 xd]] (some 1))) (g3:h.get i3=some (.arr e3 1 [.nsl] (some 1))) (g4:h.get i4=some (.arr e4 1 [.nsl] (some 1))) :
  ∃ H,fc D 96 [aM .none b,.ptr i1 2 0 0,.ptr i2 2 0 0,.ptr i3 1 0 0,.ptr i4 1 0 0] h=some (.tup [aM .none b,eL false 8 gC bN],H)∧H.get i4=some (.arr e4 1 [.isl false gs gl] (some 1))∧Ext lo h H:=by
 have l1:=aB g1
 have l2:=aB g2
 have l3:=aB g3
 have l4:=aB g4
 have m1:¬i1=h.n:=by omega
 have m2:¬i2=h.n:=by omega
 have m3:¬i3=h.n:=by omega
 have m4:¬i4=h.n:=by omega
 have n1:¬i1=h.n+1:=by omega
 have n2:¬i2=h.n+1:=by omega
 have n3:¬i3=h.n+1:=by omega
 have n4:¬i4=h.n+1:=by omega
 have uH:h.lim≤h.n+1:=by omega
 have Fb:h.lim≤h.n:=by omega
 have hl4:h.lim≤i4:=by omega
 have l5:i4<h.n+1+1:=by omega
 have l6:i4<h.n+1:=by omega
 have k4:¬h.n=i4:=by omega
 have j4:¬h.n+1=i4:=by omega
 have X2:Ext lo h ((h.push (.arr 37 6 [aM .none b] (some 1))).push (.arr 37 6 [aM .none b] (some 1))):=((Ext.refl (by omega) wf).push).push
 rw[e96,aP _ _ _ _ (by simp[t96])]
 simp[t96,g1,g2,g3,g4,m1,m2,m3,m4,n1,n2,n3,n4,e97,hF,uH,Fb,hl4,l4,l5,l6,k4,j4,wf,turn,Bb,aT]
 exact(((Ext.refl (by omega) wf).set dY l4).push).push
theorem qc37(A:cU h nid bid q wid cr m L B W X)(wf:WF h)(hl:h.lim≤h.n)(k:Nat){b:aK}(hb:B[k]?=some b)(tc td xc xd:Int)(bN:List mX)(gs:Nat)(gl:List DV)(hF:pcF D t97 [aM .none b,.int .i64 (-1),.agg [.int .i64 5,.int .i64 tc,.int .i64 td,.int .i64 xc,.int .i64 xd,.isl false 0 [],.isl false 0 []]]=some (.tup [eL false 8 gC bN,.isl false gs gl]))
  (hw:(bA L).length≤1000000) (ho:∀o∈bN,((k:Int),o.to)∈bA L) (dY:bN.length≤1000) (hX:X.length+bN.length≤100000) (hW:∀x,(W x).length+bN.length≤300000) :
  ∃ H,fc D 37 [.ptr nid 5 0 0,.int .i64 k,.agg [.int .i64 tc,.int .i64 td],.agg [.int .i64 xc,.int .i64 xd],.nsl] h=some (.tup [.isl false gs gl,.nili],H)∧∃ cr',cU H nid bid q wid cr' m L B (fV k W bN) (X++gU k bN)∧qD h H [bid,nid,q,wid] cr cr':=by
 have x:Ext h.n h ((((h.push (.arr 45 2 [.agg [.int .i64 tc,.int .i64 td]] (some 1))).push (.arr 45 2 [.agg [.int .i64 xc,.int .i64 xd]] (some 1))).push (.arr 47 1 [.nsl] (some 1))).push (.arr 53 1 [.nsl] (some 1))):=((((Ext.refl (Nat.le_refl _) wf).push).push).push).push
 obtain⟨h1,e1,g4,x1⟩:=qc96 b tc td xc xd bN gs gl hF _ h.n (h.n+1) (h.n+2) (h.n+3) x.wf 45 45 47 53 (h.n+3) (Nat.le_refl _) (by have:=x.lim;have:=x.le;simp;omega) (by simp[wf]) (by simp[wf]) (by simp[wf]) (by simp[wf])
 have x2:Ext h.n h h1:=⟨by have:=x1.le;omega,x1.lim.trans x.lim,fun i hi=>(x1.get i (by omega)).trans (x.get i hi),x1.wf⟩
 obtain⟨H,e2,cr',A2,U⟩:=m9 A x hl k hb _ _ _ e1 x2 hw ho dY hX hW
 have sK:B.set k b=B:=by
  obtain⟨hk,he⟩:=List.getElem?_eq_some_iff.1 hb
  rw[←he];exact List.set_getElem_self hk
 rw[sK]at A2
 have l4:=aB g4
 have hnc:hI cr (h.n+3):=by
  cases A.cx with
  | nil hv hx=>subst hv;intro _ _ _ e;cases e
  | arr id sp cap hv hg hl hi=>subst hv;intro _ _ _ e;injection e with e1;have:=aB hg;omega
 have cK:h.n+3 ∉ [bid,nid,q,wid]:=by
  obtain⟨_,_,gb⟩:=A.gb
  have a1:=aB gb
  have a2:=aB A.gn
  have a3:=aB A.Q.gq
  obtain⟨_,gw,_⟩:=A.Q.gw
  have a4:=aB gw
  simp;omega
 have gH:=(U.old _ l4 cK hnc).trans g4
 rw[e37,aP _ _ _ _ (by simp[t37])]
 simp[t37,e2,gH,turn,aT]
 refine⟨cr',A2,Nat.le_trans x2.le U.n,by rw[U.lim,x2.lim],U.wf,fun i hi hn ha=>?_,fun i hi ha=>U.at_ i (Nat.lt_of_lt_of_le hi x2.le) ha⟩
 rw[U.old i (Nat.lt_of_lt_of_le hi x2.le) hn ha,x2.get i hi]
end Go.Dm.Tc
/-
NetLine: the law.
-/
namespace Go.Dm.Tc
theorem Lx(k:Nat):hI .nsl k:=fun _ _ _ e=>by cases e
set_option maxHeartbeats 8000000 in
theorem s6(n a bb:Int):pcF D t6 [.int .i64 n,.int .i64 a,.int .i64 bb]=some (.bool true):=by
 have m1:=Bu n 2 9 (by decide)
 obtain⟨M,hM⟩:∃ M:Nat,hJ n 2 9=M:=⟨(hJ n 2 9).toNat,by omega⟩
 rw[hM]at m1
 have r1:=Bu a 0 ((M:Int)-1) (by omega)
 obtain⟨r,hr⟩:∃ r:Nat,hJ a 0 ((M:Int)-1)=r:=⟨(hJ a 0 ((M:Int)-1)).toNat,by omega⟩
 rw[hr]at r1
 have s1:=Bu bb 0 ((M:Int)-1) (by omega)
 obtain⟨b,hb⟩:∃ b:Nat,hJ bb 0 ((M:Int)-1)=b:=⟨(hJ bb 0 ((M:Int)-1)).toNat,by omega⟩
 rw[hb]at s1
 have wM:=s10 n 2 9 (by decide) (by decide) (by decide)
 have wR:=s10 a 0 ((M:Int)-1) (by omega) (by decide) (by omega)
 have wB:=s10 bb 0 ((M:Int)-1) (by omega) (by decide) (by omega)
 rw[hM]at wM
 rw[hr]at wR
 rw[hb]at wB
 have gB:=u5
 have h2:2≤M:=by omega
 have h9:M≤9:=by omega
 have hrM:r<M:=by omega
 have hbM:b<M:=by omega
 have ok:=Oo (M:=M) (by omega)
 have hL:=sA (M-1)
 have hwl:=iR (fM (M-1))
 unfold pcF
 rw[aP _ _ _ _ (by simp[t6])]
 simp[t6,e10,wM,turn]
 generalize hF:upd _ 9 _=F
 generalize hH:aA.push _ _=H
 refine l6 (fun r=>oK (fin [.t 6] r)=some (.bool true)) M (by omega) a bb (M-1) 0 F H (by omega) ⟨⟨.nsl,by rw[←hH];simp,.nil rfl rfl⟩,by rw[←hH];simp,by rw[←hH];simp,by rw[←hH];simp⟩ (by rw[←hF];simp) (by rw[←hF];simp) (by rw[←hF];simp) (by rw[←hF];simp) (by rw[←hF];simp) fun F1 H0 hh b1 b2 b7 b8=>?_
 obtain⟨⟨v,g0,ov⟩,lim,hn,wf⟩:=hh
 clear hF hH
 obtain⟨bid,H1,e1,A1,x1,hbid⟩:=qv24 ok (by omega) (by omega) (by omega) (NQ (M:=M) (by omega)) H0 wf (by omega) (ov.lower (by omega))
 have l1:H1.lim=0:=by rw[x1.lim,lim]
 have lnid:=aB A1.gn
 have lbid:bid<H1.n:=by obtain⟨sp,cap,g⟩:=A1.gb;exact aB g
 have lq:=aB A1.Q.gq
 have lw:H0.n+2<H1.n:=by obtain⟨ms,g,_⟩:=A1.Q.gw;exact aB g
 have w1:=x1.wf
 obtain⟨K,hK⟩:∃ K,K=(((H1.push (.arr 78 1 [.ptr (H0.n+4) 5 0 0] (some 1))).push (.arr 45 2 [.agg [.int .i64 1,.int .i64 0]] (some 1))).push (.arr 45 2 [.agg [.int .i64 2,.int .i64 0]] (some 1))).push (.arr 45 2 [.agg [.int .i64 1,.int .i64 4]] (some 1)):=⟨_,rfl⟩
 have xK:Ext H1.n H1 K:=by rw[hK];exact((((Ext.refl (Nat.le_refl _) w1).push).push).push).push
 have nK:K.n=H1.n+4:=by rw[hK];simp
 have k0:K.get H1.n=some (.arr 78 1 [.ptr (H0.n+4) 5 0 0] (some 1)):=by rw[hK];simp
 have k1:K.get (H1.n+1)=some (.arr 45 2 [.agg [.int .i64 1,.int .i64 0]] (some 1)):=by rw[hK];simp
 have k2:K.get (H1.n+2)=some (.arr 45 2 [.agg [.int .i64 2,.int .i64 0]] (some 1)):=by rw[hK];simp
 have k3:K.get (H1.n+3)=some (.arr 45 2 [.agg [.int .i64 1,.int .i64 4]] (some 1)):=by rw[hK];simp
 have Kl:K.lim=0:=by rw[xK.lim,l1]
 obtain⟨H2,B2,Q2,eA,A2,F2,U2⟩:=FlM.advert (r:=(r:Int)) (x:=xI) (p:=[]) ok (by omega) (by omega) (by omega) (fun _=>rfl) (fun v hv=>(by unfold Kb;rw[List.getElem?_map,List.getElem?_range (by omega)];rfl)) (Gz M (fM (M-1)) (M:Int).toNat) (A1.ext xK) xK.wf (by omega) (pv:=.nsl) (.inl ⟨rfl,rfl⟩)
 have l2:H2.lim=0:=by rw[U2.lim,Kl]
 have n2:=U2.n
 have ne3:∀k,H1.n≤k→k ∉ [bid,H0.n+3,H0.n+2]:=fun k hk=>by simp;omega
 have ne4:∀k,H1.n≤k→k ∉ [bid,H0.n+4,H0.n+3,H0.n+2]:=fun k hk=>by simp;omega
 have f2:∀k,H1.n≤k→k<K.n→H2.get k=K.get k:=fun k h h'=>U2.old k h' (ne3 k h)
 have D1:=dr1 (c:=H1.n) (e:=78) (nid:=H0.n+4) (bid:=bid) (q:=H0.n+3) (wid:=H0.n+2) (h1:=H2) h2 h9 hrM (by omega) ((f2 _ (by omega) (by omega)).trans k0) (ne3 _ (by omega))
 obtain⟨i1,g1,H3,d1,hg1,uJ,B3,Q3,A3,U3,hB3,hQ3⟩:=XE D1 (H:=H2) ⟨rfl,B2,Q2,_,_,_,_,⟨A2,F2,Upd.refl U2.wf _⟩,by
  have:uK (bA (fM (M-1))) (fun _ _=>0)≤0*(bA (fM (M-1))).length:=Nu fun _ _=>Nat.le_refl _
  omega,NG.start _⟩
 have l3:H3.lim=0:=by rw[U3.lim,l2]
 have n3:=U3.n
 have f3:∀k,H1.n≤k→k<K.n→H3.get k=K.get k:=fun k h h'=>(U3.old k (by omega) (ne3 k h)).trans (f2 k h h')
 have hpb:=Tz h2 h9 hbM hrM (j:=0) (Nat.zero_le _)
 rw[EE]at hpb
 have hs4:=FP (v:=b) (up:=uI M b) (q:=nZ r b) (by omega) (MO h2) hpb
 have hol4:=Aj 3 (nZ r b) sI
 obtain⟨H4,eS,cr4,A4,U4⟩:=qc36 A3 U3.wf (by omega) b (hB3 b hbM) 2 0 _ hs4 (by omega) (Ai _ _ _ (Am h2 h9 hbM hpb) ok) (by omega) (by simp;omega) (fun x=>by rw[hQ3];simp;omega)
 have tO:gU (b:Int) (nM 3 (nZ r b) sI)=[]:=List.length_eq_zero_iff.1 (by rw[tX,if_neg (by omega)])
 rw[tO,List.append_nil]at A4
 have l4:H4.lim=0:=by rw[U4.lim,l3]
 have n4:=U4.n
 have f4:∀k,H1.n≤k→k<K.n→H4.get k=K.get k:=fun k h h'=>(U4.old k (by omega) (ne4 k h) (Lx k)).trans (f3 k h h')
 have a4:∀k,H1.n≤k→k<K.n→hI cr4 k:=fun k h h'=>U4.at_ k (by omega) (Lx k)
 have D2:=dr2 (c:=H1.n) (e:=78) (nid:=H0.n+4) (bid:=bid) (q:=H0.n+3) (wid:=H0.n+2) (h1:=H4) (cr0:=cr4) h2 h9 hbM hrM (by omega) ((f4 _ (by omega) (by omega)).trans k0) (ne4 _ (by omega)) (a4 _ (by omega) (by omega))
 obtain⟨i2,g2,H5,d2,LT,PO,B5,Q5,cr5,A5,U5,P5⟩:=XE D2 (H:=H4) ⟨rfl,_,_,cr4,A4,qD.refl U4.wf _ _,Up2.start hbM hrM hB3 hQ3⟩
 have l5:H5.lim=0:=by rw[U5.lim,l4]
 have n5:=U5.n
 have f5:∀k,H1.n≤k→k<K.n→H5.get k=K.get k:=fun k h h'=>(U5.old k (by omega) (ne4 k h) (a4 k h h')).trans (f4 k h h')
 have a5:∀k,H1.n≤k→k<K.n→hI cr5 k:=fun k h h'=>U5.at_ k (by omega) (a4 k h h')
 have hQ5:∀w,Q5 w=[]:=fun w=>by rw[P5.qs,if_neg (by omega)]
 have hB5:∀j,j≤dI b r→B5[yI b r j]?=some (brE (yI b r j) (uI M (yI b r j)) (nZ r (yI b r j)) (frI b r j)):=fun j hj=>P5.on j (by omega) hj
 have yV:=S2 h2 h9 hbM hrM (j:=dI b r) (Nat.le_refl _)
 have hBr:=hB5 (dI b r) (Nat.le_refl _)
 rw[XV]at yV hBr
 have hpr:nZ r r=-1:=by unfold nZ;rw[if_pos rfl]
 rw[hpr]at hBr
 have hs6:=HF (v:=r) (up:=uI M r) (f:=frI b r (dI b r)) (by omega) (MO h2) yV
 obtain⟨gs,gl,Fe,RU⟩:=S0 (frI b r (dI b r))
 rw[Fe]at hs6
 have hol6:=Aj 5 (frI b r (dI b r)) pI
 obtain⟨H6,eP,cr6,A6,U6⟩:=qc37 A5 U5.wf (by omega) r hBr 1 0 1 4 _ gs gl hs6 (by omega) (Ai _ _ _ (Am h2 h9 hrM yV) ok) (by omega) (by simp;omega) (fun x=>by rw[hQ5];simp;omega)
 rw[List.nil_append]at A6
 have l6:H6.lim=0:=by rw[U6.lim,l5]
 have n6:=U6.n
 have f6:∀k,H1.n≤k→k<K.n→H6.get k=K.get k:=fun k h h'=>(U6.old k (by omega) (ne4 k h) (a5 k h h')).trans (f5 k h h')
 have a6:∀k,H1.n≤k→k<K.n→hI cr6 k:=fun k h h'=>U6.at_ k (by omega) (a5 k h h')
 have D3:=dr3 (c:=H1.n) (e:=78) (nid:=H0.n+4) (bid:=bid) (q:=H0.n+3) (wid:=H0.n+2) (h1:=H6) (cr0:=cr6) (B:=B5) h2 h9 hbM hrM (by omega) ((f6 _ (by omega) (by omega)).trans k0) (ne4 _ (by omega)) (a6 _ (by omega) (by omega)) hB5
 obtain⟨i3,g3,H7,d3,hi3,hg3,Q7,cr7,X7,A7,U7,P7⟩:=XE D3 (H:=H6) ⟨by rw[if_neg (by omega)],_,cr6,_,A6,qD.refl U6.wf _ _,Dn3.start hQ5⟩
 have l7:H7.lim=0:=by rw[U7.lim,l6]
 have n7:=U7.n
 have f7:∀k,H1.n≤k→k<K.n→H7.get k=K.get k:=fun k h h'=>(U7.old k (by omega) (ne4 k h) (a6 k h h')).trans (f6 k h h')
 have hXl:=P7.n
 obtain⟨w,H8,eC,o8,x8⟩:=q33 A7 U7.wf (by omega) (by have:dI b r<M:=(by unfold dI;split<;>omega);omega)
 have lv8:=o8.lenV
 have hwm:IntKind.i64.wrap ((M:Int)-1)=(M:Int)-1:=bK (by omega) (by omega)
 have Vc:IntKind.i64.wrap ((b:Int)-r)=(b:Int)-r:=bK (by omega) (by omega)
 have g30:=(f3 H1.n (by omega) (by omega)).trans k0
 have g32:=(f3 (H1.n+2) (by omega) (by omega)).trans k2
 have g50:=(f5 H1.n (by omega) (by omega)).trans k0
 have g51:=(f5 (H1.n+1) (by omega) (by omega)).trans k1
 have g53:=(f5 (H1.n+3) (by omega) (by omega)).trans k3
 have g70:=(f7 H1.n (by omega) (by omega)).trans k0
 have eA:fc D 25 [.ptr (H0.n+4) 5 0 0,.int .i64 (r:Int),.agg [.int .i64 1,.int .i64 0],.nsl] K=some (.nili,H2):=eA
 have lg:∀h,lenV h 1 (.isl false gs gl)=some (.int .i64 gl.length):=fun _=>rfl
 have hi1':(i1:Int)=(M:Int)-1:=by omega
 rw[List.length_map]at lv8
 subst hK
 have hfI:(frI b r (dI b r)=-1)↔dI b r=0:=by
  unfold frI
  split
  ·exact⟨fun _=>by assumption,fun _=>rfl⟩
  ·exact⟨fun h=>by omega,fun h=>by omega⟩
 rcases Nat.lt_trichotomy b r with h|h|h
 ·have hD:(dI b r:Int)=(r:Int)-b:=by unfold dI;split<;>omega
  have aY:(b:Int)-r<0:=by omega
  have hwn:IntKind.i64.wrap (-((b:Int)-r))=(r:Int)-b:=by rw[show -((b:Int)-r)=(r:Int)-b by omega];exact bK (by omega) (by omega)
  have hi2':(i2:Int)=(r:Int)-b:=by omega
  have hi3':(i3:Int)=(r:Int)-b:=by omega
  have hg3':g3=1:=by rw[hg3,if_pos (by omega)]
  have hgl':gl.length=0:=by rw[RU,if_neg (fun h=>by have:=hfI.1 h;omega)]
  have hX':(X7.length:Int)=(r:Int)-b:=by omega
  have cK:¬((r:Int)-b=0):=by omega
  simp[V9,b1,b2,b7,b8,g0,lim,e1,nN,vP,Al,e10,hwm,wR,wB,w1,l1,eA,d1,g30,g32,eS,d2,g50,g51,g53,eP,d3,g70,eC,lv8,lg,Vc,hi1',hi2',hi3',hg3',hgl',hX',e34,gB,aY,hwn,cK]
 ·have hD:(dI b r:Int)=0:=by unfold dI;split<;>omega
  have aY:¬(b:Int)-r<0:=by omega
  have h0:(b:Int)-r=0:=by omega
  have hi2':(i2:Int)=0:=by omega
  have hi3':(i3:Int)=0:=by omega
  have hg3':g3=0:=by rw[hg3,if_neg (by omega)]
  have hgl':gl.length=1:=by rw[RU,if_pos (hfI.2 (by omega))]
  have hX':(X7.length:Int)=0:=by omega
  rw[h0]at Vc
  simp[V9,b1,b2,b7,b8,g0,lim,e1,nN,vP,Al,e10,hwm,wR,wB,w1,l1,eA,d1,g30,g32,eS,d2,g50,g51,g53,eP,d3,g70,eC,lv8,lg,Vc,hi1',hi2',hi3',hg3',hgl',hX',e34,gB,h0]
 ·have hD:(dI b r:Int)=(b:Int)-r:=by unfold dI;split<;>omega
  have aY:¬(b:Int)-r<0:=by omega
  have hi2':(i2:Int)=(b:Int)-r:=by omega
  have hi3':(i3:Int)=(b:Int)-r:=by omega
  have hg3':g3=1:=by rw[hg3,if_pos (by omega)]
  have hgl':gl.length=0:=by rw[RU,if_neg (fun h=>by have:=hfI.1 h;omega)]
  have hX':(X7.length:Int)=(b:Int)-r:=by omega
  have cK:¬((b:Int)-r=0):=by omega
  simp[V9,b1,b2,b7,b8,g0,lim,e1,nN,vP,Al,e10,hwm,wR,wB,w1,l1,eA,d1,g30,g32,eS,d2,g50,g51,g53,eP,d3,g70,eC,lv8,lg,Vc,hi1',hi2',hi3',hg3',hgl',hX',e34,gB,aY,cK]
end Go.Dm.Tc
