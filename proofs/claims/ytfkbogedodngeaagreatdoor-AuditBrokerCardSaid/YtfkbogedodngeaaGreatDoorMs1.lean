/- A part of the proof. -/
import Derived.Test.YtfkbogedodngeaaGreatDoorMs0
set_option linter.all false
set_option maxRecDepth 100000
namespace Go.Dm.Tc
def dP(b:aF)(x:ID):Int:=((b.aG.find? fun a=>a.id=x).getD vK).bP
def Cr(b:aF)(e:bB):Bool:=e.up || decide (dP b e.tree=-1) || bV b.entries e.tree e.pred
def tX(b:aF):Bool:=b.entries.all (Cr b)
structure Al(b:aF):Prop where
 unl:∀e∈b.entries,oP e.pred
 len:∀e∈b.entries,e.pred.length≤1000000
theorem l67(t:dZ)(b:aF)(hs:jF b)(hp:Al b)(ra:dB (b.aG.map (·.id)))(h0:aA)(g0:h0.get 0=some (.arr 37 6 [aI t b] (some 1)))(aO:h0.lim=0) :
  ∀(rest:List bB) (i:Nat) (f:dJ) (h:aA),b.entries.drop i=rest→f 1=.ptr 0 6 0 0→f 8=eL t.entries 7 aN b.entries→f 9=.int .i64 b.entries.length→f 10=.int .i64 i→Ext 1 h0 h →
  dY (fin [.t 2] (run D 39 [.block 0,.seq S7] (.loop Tz) f h))=some (.bool (rest.all (Cr b))):=by
 obtain⟨z1,z2,z3,z4,z5⟩:=hs
 have f1:=fun {α:Type} (t:Bool) (sz:Nat) (e:α→DV) (xs:List α)=>(sF t sz e xs).mono (show 1≤20 by decide)
 intro rest
 induction rest with
 | nil =>
  intro i f h hd h1 h8 h9 jY hx
  have hi:=cY hd
  have:¬(i<b.entries.length):=by omega
  rw[aC Tz.eq_1]
  simp[S7,h9,jY,this]
 | cons e rest ih =>
  intro i f h hd h1 h8 h9 jY hx
  obtain⟨hi,he,fV⟩:=cN hd
  have hem:e∈b.entries:=by rw[←he];exact List.getElem_mem hi
  have hlH:h.lim=0:=hx.lim.trans aO
  have Tg:=(hx.get 0 (by decide)).trans g0
  simp only[aI]at Tg
  have hnh:=hx.le
  have n0:¬0=h.n:=by omega
  have m0:¬h.n=0:=by omega
  have hw:IntKind.i64.wrap ((i:Int)+1)=(i:Int)+1:=bE (by omega) (by omega)
  have hFd:=s30 (.int .i64 b.me) (eL t.aL 1 cF b.aL) (eL t.seen 2 eID b.seen) (eL t.entries 7 aN b.entries) (eL t.bJ 3 cB b.bJ) t.aG b.aG e.tree.aW e.tree.seq ra (by omega) ((iS _ _).mono (by decide)) (f1 _ _ _ _) (f1 _ _ _ _) (f1 _ _ _ _) (f1 _ _ _ _)
  have hCv:=s164 (.int .i64 b.me) (eL t.aL 1 cF b.aL) (eL t.aG 4 aJ b.aG) (eL t.seen 2 eID b.seen) (eL t.bJ 3 cB b.bJ) t.entries b.entries e.tree.aW e.tree.seq e.pred (by omega) (hp.unl e hem) (hp.len e hem) hp.len ((iS _ _).mono (by decide)) (f1 _ _ _ _) (f1 _ _ _ _) (f1 _ _ _ _) (f1 _ _ _ _)
  obtain⟨a,ha⟩:∃ a,(b.aG.find? fun a=>decide (a.id=⟨e.tree.aW,e.tree.seq⟩)).getD vK=a:=⟨_,rfl⟩
  have hpa:dP b e.tree=a.bP:=by unfold dP;rw[←ha]
  rw[ha]at hFd
  obtain⟨C,hC⟩:∃ C,bV b.entries e.tree e.pred=C:=⟨_,rfl⟩
  rw[show bV b.entries ⟨e.tree.aW,e.tree.seq⟩ e.pred=C from hC]at hCv
  rw[aC Tz.eq_1]
  have tI:Cr b e=(e.up || decide (a.bP=-1) || C):=by unfold Cr;rw[hpa,hC]
  rw[List.all_cons,tI]
  have next:∀F H,F 1=.ptr 0 6 0 0→F 8=eL t.entries 7 aN b.entries→F 9=.int .i64 b.entries.length→F 10=.int .i64 ((i:Int)+1)→Ext 1 h0 H→dY (fin [.t 2] (run D 39 [.block 0,.seq S7] (.loop Tz) F H))=some (.bool (rest.all (Cr b))):=fun F H a1 a2 a3 a4 a5=>ih (i+1) F H fV a1 a2 a3 (by rw[a4];simp) a5
  simp only[aJ]at hFd
  cases vM:e.up with
  | true =>
   simp[h1,h8,h9,jY,hi,he,hlH,Tg,n0,m0,aN,vM,e30,hFd,turn,hw]
   exact next _ _ (by simp[h1]) (by simp[h8]) (by simp[h9]) (by simp) hx.push.push
  | false =>
   by_cases yU:a.bP=-1
   ·simp[h1,h8,h9,jY,hi,he,hlH,Tg,n0,m0,aN,vM,e30,hFd,turn,hw,yU]
    exact next _ _ (by simp[h1]) (by simp[h8]) (by simp[h9]) (by simp) hx.push.push
   ·cases C with
    | true =>
     simp[h1,h8,h9,jY,hi,he,hlH,Tg,n0,m0,aN,vM,e30,hFd,turn,hw,yU,u9,hCv]
     exact next _ _ (by simp[h1]) (by simp[h8]) (by simp[h9]) (by simp) hx.push.push
    | false=>simp[h1,h8,h9,jY,hi,he,hlH,Tg,n0,m0,aN,vM,e30,hFd,turn,hw,yU,u9,hCv]
theorem s67(t:dZ)(b:aF)(hs:jF b)(hp:Al b)(ra:dB (b.aG.map (·.id))):pcF D t67 [aI t b]=some (.bool (tX b)):=by
 unfold pcF
 rw[aP _ _ _ _ (by simp[t67])]
 simp only[aI]
 simp[t67]
 refine(l67 t b hs hp ra _ ?_ ?_ b.entries 0 _ _ rfl ?_ ?_ ?_ ?_ (Ext.refl ?_ ?_)).trans ?_<;>simp[aI,tX]
end Go.Dm.Tc
/-
What the reference's functions compute,part 4: an entry's place;is a predicate covered?
-/
namespace Go.Dm.Tc
theorem l197(h0:aA)(a b c d:Int)(t:Bool)(l:List bB)(hl:l.length≤1000000)(g1:h0.get 1=some (.arr 45 2 [.agg [.int .i64 a,.int .i64 b]] (some 1)))(g2:h0.get 2=some (.arr 45 2 [.agg [.int .i64 c,.int .i64 d]] (some 1)))(aO:h0.lim=0) :
  ∀(rest:List bB) (i:Nat) (f:dJ) (h:aA),l.drop i=rest→f 4=.ptr 1 2 0 0→f 5=.ptr 2 2 0 0→f 10=eL t 7 aN l→f 11=.int .i64 l.length→f 12=.int .i64 i→Ext 3 h0 h →
  dY (fin [.t 6] (run D 29 [.block 0,.seq Pj] (.loop Gy) f h))=some (.int .i64 (eM ((rest.findIdx? (isE ⟨a,b⟩ ⟨c,d⟩)).map (·+i)))):=by
 intro rest
 induction rest with
 | nil =>
  intro i f h hd h4 h5 jY pT pS hx
  have hi:=cY hd
  have:¬(i<l.length):=by omega
  rw[aC Gy.eq_1]
  simp[Pj,pT,pS,this,eM]
 | cons e rest ih =>
  intro i f h hd h4 h5 jY pT pS hx
  obtain⟨hi,he,fV⟩:=cN hd
  have No:=(hx.get 1 (by decide)).trans g1
  have hg2:=(hx.get 2 (by decide)).trans g2
  have hnh:=hx.le
  have n1:¬1=h.n:=by omega
  have n2:¬2=h.n:=by omega
  have Dh:h.lim=0:=hx.lim.trans aO
  have hw:IntKind.i64.wrap ((i:Int)+1)=(i:Int)+1:=bE (by omega) (by omega)
  rw[aC Gy.eq_1]
  have next:∀F H,isE ⟨a,b⟩ ⟨c,d⟩ e=false→F 4=.ptr 1 2 0 0→F 5=.ptr 2 2 0 0→F 10=eL t 7 aN l→F 11=.int .i64 l.length→F 12=.int .i64 ((i:Int)+1)→Ext 3 h0 H→dY (fin [.t 6] (run D 29 [.block 0,.seq Pj] (.loop Gy) F H))=some (.int .i64 (eM (((e::rest).findIdx? (isE ⟨a,b⟩ ⟨c,d⟩)).map (·+i)))):=fun F H q a1 a2 a3 a4 a5 a6=>by
   refine(ih (i+1) F H fV a1 a2 a3 a4 (by rw[a5];simp) a6).trans ?_
   simp[List.findIdx?_cons,q]
   congr 2
   funext q
   simp
   omega
  by_cases h1:e.tree=⟨a,b⟩
  ·have vP:e.tree.aW=a:=by rw[h1]
   have Ge:e.tree.seq=b:=by rw[h1]
   by_cases h2:e.sub=⟨c,d⟩
   ·have hc3:e.sub.aW=c:=by rw[h2]
    have hc4:e.sub.seq=d:=by rw[h2]
    have hq:isE ⟨a,b⟩ ⟨c,d⟩ e=true:=by simp[isE,h1,h2]
    simp[h4,h5,jY,pT,pS,hi,he,n1,n2,No,hg2,aN,Dh,vP,Ge,hc3,hc4,hq,List.findIdx?_cons,eM]
   ·have TK:=En h2
    simp only at TK
    have hq:isE ⟨a,b⟩ ⟨c,d⟩ e=false:=by simp[isE,h2]
    simp[h4,h5,jY,pT,pS,hi,he,n1,n2,No,hg2,aN,Dh,vP,Ge,TK,hw]
    exact next _ _ hq (by simp[h4]) (by simp[h5]) (by simp[jY]) (by simp[pT]) (by simp) hx.push
  ·have Jm:=En h1
   simp only at Jm
   have hq:isE ⟨a,b⟩ ⟨c,d⟩ e=false:=by simp[isE,h1]
   simp[h4,h5,jY,pT,pS,hi,he,n1,n2,No,hg2,aN,Dh,Jm,hw]
   exact next _ _ hq (by simp[h4]) (by simp[h5]) (by simp[jY]) (by simp[pT]) (by simp) hx.push
theorem c7(x0 x1 x2 x3 x5:DV)(t:Bool)(l:List bB)(a b c d:Int)(hl:l.length≤1000000) :
  pcF D AM [.agg [x0,x1,x2,x3,eL t 7 aN l,x5],.agg [.int .i64 a,.int .i64 b],.agg [.int .i64 c,.int .i64 d]]=some (.int .i64 (eM (l.findIdx? (isE ⟨a,b⟩ ⟨c,d⟩)))):=by
 unfold pcF
 rw[aP _ _ _ _ (by simp[AM])]
 simp[AM]
 refine(l197 _ a b c d t l hl ?_ ?_ ?_ l 0 _ _ rfl ?_ ?_ ?_ ?_ ?_ (Ext.refl ?_ ?_)).trans ?_<;>simp
def iM(a b:kM):Bool :=
 if a.kind=1 then decide (b.kind=1) && decide (b.lo≤a.lo) && decide (a.hi≤b.hi)
 else if b.kind=2 then decide (a.kind=2) && (a.text == b.text)
 else decide (b.kind=3) && kJ a.text b.text
theorem s309(a b:kM):pcF D Fd [.agg [.str a.name,.int .i64 a.kind,.int .i64 a.lo,.int .i64 a.hi,.str a.text],.agg [.str b.name,.int .i64 b.kind,.int .i64 b.lo,.int .i64 b.hi,.str b.text]]=some (.bool (iM a b)):=by
 obtain⟨nm,k,lo,hi,tx⟩:=a
 obtain⟨nm',k',lo',lI,tx'⟩:=b
 unfold pcF
 rw[aP _ _ _ _ (by simp[Fd])]
 simp only
 by_cases k1:k=1
 ·subst k1
  by_cases j:k'=1
  ·by_cases h1:lo'≤lo
   ·simp[Fd,iM,j,h1]
   ·simp[Fd,iM,j,h1]
  ·simp[Fd,iM,j]
 ·by_cases k2:k'=2
  ·subst k2
   by_cases j:k=2
   ·simp[Fd,iM,j]
   ·simp[Fd,iM,k1,j]
  ·by_cases k3:k'=3
   ·subst k3
    simp[Fd,iM,k1,RY,PH]
   ·simp[Fd,iM,k1,k2,k3]
theorem Lu{c x:kM}(hx:cX x=true):iM x c=nS c x:=by
 have hk:x.kind=1∨x.kind=2∨x.kind=3:=by
  unfold cX at hx
  rw[Bool.and_eq_true]at hx
  have:=hx.2
  split at this
  ·rename_i h;exact .inl h
  ·split at this
   ·rename_i h;exact .inr (.inr h)
   ·split at this
    ·rename_i h;exact .inr (.inl h)
    ·cases this
 unfold iM nS kW
 rcases hk with h|h|h
 ·simp[h]
 ·by_cases h2:c.kind=2
  ·simp[h,h2]
  ·by_cases h3:c.kind=3<;>simp[h,h2,h3]
 ·by_cases h2:c.kind=2
  ·simp[h,h2]
  ·simp[h,h2]
end Go.Dm.Tc
/-
What the reference's functions compute,part 5: does a predicate cover another one? is it covered?
-/
namespace Go.Dm.Tc
def inC(x:kM)(b:bN):Bool:=b.any fun y=>decide (y.name=x.name) && iM y x
theorem l258(S:List Fr)(b:bN)(hl:b.length≤1000000)(a:bN)(x:kM)(n11:DV)(i12:DV)(id:Nat) :
  ∀(rest:bN) (i:Nat) (iA:Bool) (f:dJ) (h:aA),b.drop i=rest→f 1=eL false 5 bC b→f 10=eL false 5 bC a→f 11=n11→f 12=i12→f 6=.ptr id 5 0 0→f 7=.bool iA→f 16=eL false 5 bC b→f 17=.int .i64 b.length→f 18=.int .i64 i →
   h.get id=some (.arr 94 5 [bC x] (some 1))→h.lim=0→WF h →
  ∃ f' h',run D 39 (.block 2::.seq zG::S) (.loop Gv) f h=run D 39 S zG f' h'∧f' 1=eL false 5 bC b∧f' 10=eL false 5 bC a∧f' 11=n11∧f' 12=i12∧f' 7=.bool (iA || inC x rest)∧h'.lim=0∧WF h':=by
 intro rest
 induction rest with
 | nil =>
  intro i iA f h hd h1 jY pT pS h6 h7 W9 W8 h18 g aO wf
  have hi:=cY hd
  have:¬(i<b.length):=by omega
  rw[aC Gv.eq_1]
  simp[W8,h18,this]
  exact⟨_,_,rfl,by simp[h1],by simp[jY],by simp[pT],by simp[pS],by simp[h7,inC],aO,wf⟩
 | cons y rest ih =>
  intro i iA f h hd h1 jY pT pS h6 h7 W9 W8 h18 g aO wf
  obtain⟨hi,he,fV⟩:=cN hd
  have aZ:=cI g
  have n0:¬id=h.n:=by omega
  have hw:IntKind.i64.wrap ((i:Int)+1)=(i:Int)+1:=bE (by omega) (by omega)
  simp only[bC]at g
  rw[aC Gv.eq_1]
  have Fm:(iA || inC x (y::rest))=((iA || (decide (y.name=x.name) && iM y x)) || inC x rest):=by simp[inC,Bool.or_assoc]
  rw[Fm]
  have next:∀(F:dJ) (acc':Bool),F 1=eL false 5 bC b→F 10=eL false 5 bC a→F 11=n11→F 12=i12→F 6=.ptr id 5 0 0→F 7=.bool acc'→F 16=eL false 5 bC b→F 17=.int .i64 b.length→F 18=.int .i64 ((i:Int)+1) →
    ∃ f' h',run D 39 (.block 2::.seq zG::S) (.loop Gv) F (h.push (.arr 94 5 [.agg [.str y.name,.int .i64 y.kind,.int .i64 y.lo,.int .i64 y.hi,.str y.text]] (some 1)))=run D 39 S zG f' h'∧f' 1=eL false 5 bC b∧f' 10=eL false 5 bC a∧f' 11=n11∧f' 12=i12∧f' 7=.bool (acc' || inC x rest)∧h'.lim=0∧WF h':=fun F acc' a1 a2 a3 a4 a5 a6 a7 a8 a9 =>
   ih (i+1) acc' F _ fV a1 a2 a3 a4 a5 a6 a7 a8 (by rw[a9];simp) (by rw[dC,if_neg n0];exact g) aO wf.push
  cases iA with
  | true =>
   simp[h1,h6,h7,W9,W8,h18,hi,he,bC,aO,n0,g,hw]
   generalize hF:upd _ 18 _=F
   have:=next F true (by rw[←hF];simp[h1]) (by rw[←hF];simp[jY]) (by rw[←hF];simp[pT]) (by rw[←hF];simp[pS]) (by rw[←hF];simp[h6]) (by rw[←hF];simp) (by rw[←hF];simp[W9,bC]) (by rw[←hF];simp[W8]) (by rw[←hF];simp)
   simpa using this
  | false =>
   by_cases hn:y.name=x.name
   ·simp[h1,h6,h7,W9,W8,h18,hi,he,bC,aO,n0,g,hw,eq_true hn,beq_iff_eq.2 hn,e309,s309]
    generalize hF:upd _ 18 _=F
    have:=next F (iM y x) (by rw[←hF];simp[h1]) (by rw[←hF];simp[jY]) (by rw[←hF];simp[pT]) (by rw[←hF];simp[pS]) (by rw[←hF];simp[h6]) (by rw[←hF];simp) (by rw[←hF];simp[W9,bC]) (by rw[←hF];simp[W8]) (by rw[←hF];simp)
    simpa using this
   ·simp[h1,h6,h7,W9,W8,h18,hi,he,bC,aO,n0,g,hw,hn]
    generalize hF:upd _ 18 _=F
    have:=next F false (by rw[←hF];simp[h1]) (by rw[←hF];simp[jY]) (by rw[←hF];simp[pT]) (by rw[←hF];simp[pS]) (by rw[←hF];simp[h6]) (by rw[←hF];simp) (by rw[←hF];simp[W9,bC]) (by rw[←hF];simp[W8]) (by rw[←hF];simp)
    simpa using this
theorem m258(a b:bN)(XE:a.length≤1000000)(hl:b.length≤1000000) :
  ∀(rest:bN) (i:Nat) (f:dJ) (h:aA),a.drop i=rest→f 1=eL false 5 bC b→f 10=eL false 5 bC a→f 11=.int .i64 a.length→f 12=.int .i64 i→h.lim=0→WF h →
  dY (fin [.t 4] (run D 39 [.block 0,.seq Ou] (.loop Gu) f h))=some (.bool (rest.all fun x=>inC x b)):=by
 intro rest
 induction rest with
 | nil =>
  intro i f h hd h1 jY pT pS aO wf
  have hi:=cY hd
  have:¬(i<a.length):=by omega
  rw[aC Gu.eq_1]
  simp[Ou,pT,pS,this]
 | cons x rest ih =>
  intro i f h hd h1 jY pT pS aO wf
  obtain⟨hi,he,fV⟩:=cN hd
  have hw:IntKind.i64.wrap ((i:Int)+1)=(i:Int)+1:=bE (by omega) (by omega)
  rw[aC Gu.eq_1]
  simp[h1,jY,pT,pS,hi,he,bC,aO]
  generalize hF:upd _ 18 _=F
  obtain⟨f',h',k1,k2,k3,k4,k5,k6,k7,k8⟩:=l258 (.block 1::.seq B5::.loop Gu::[.block 0,.seq Ou]) b hl a x (.int .i64 a.length) (.int .i64 i) h.n b 0 false F (h.push (.arr 94 5 [bC x] (some 1))) rfl (by rw[←hF];simp[h1]) (by rw[←hF];simp[jY,bC]) (by rw[←hF];simp[pT]) (by rw[←hF];simp[pS]) (by rw[←hF];simp) (by rw[←hF];simp) (by rw[←hF];simp[bC]) (by rw[←hF];simp) (by rw[←hF];simp) (by simp) (by exact aO) wf.push
  simp only[bC]at k1
  rw[k1]
  clear hF k1
  simp only[Bool.false_or]at k6
  cases hq:inC x b with
  | false =>
   rw[hq]at k6
   simp[zG,k6,hq]
  | true =>
   rw[hq]at k6
   simp[zG,B5,k5,k6,hq,hw]
   refine(ih (i+1) _ h' fV ?_ ?_ ?_ ?_ k7 k8).trans ?_<;>simp[k2,k3,k4]
theorem s258(a b:bN)(XE:a.length≤1000000)(hl:b.length≤1000000):pcF D B6 [bQ a,bQ b]=some (.bool (a.all fun x=>inC x b)):=by
 unfold pcF
 rw[aP _ _ _ _ (by simp[B6])]
 simp only[bQ]
 simp[B6]
 refine(m258 a b XE hl a 0 _ _ rfl ?_ ?_ ?_ ?_ ?_ ?_).trans ?_<;>simp
end Go.Dm.Tc
/-
Plain laws,part 3: names of right predicates are unlike;the two coverings are alike. The reference's Covered.
-/
namespace Go.Dm.Tc
theorem HA{a b:UInt8}:(decide (a<b))=decide (a.toNat<b.toNat):=by
 by_cases h:a<b
 ·rw[decide_eq_true h,decide_eq_true (UInt8.lt_iff_toNat_lt.1 h)]
 ·rw[decide_eq_false h,decide_eq_false (fun q=>h (UInt8.lt_iff_toNat_lt.2 q))]
theorem MO:∀a:List UInt8,Go.Op.bytesLess a a=false
 | []=>rfl
 | a::r=>by simp only[Go.Op.bytesLess,HA,MO r];simp
theorem Ko:∀{a b c:List UInt8},Go.Op.bytesLess a b=true→Go.Op.bytesLess b c=true→Go.Op.bytesLess a c=true
 | _,[],_,h,_=>by cases ‹List UInt8›<;>simp[Go.Op.bytesLess]at h
 | _,_::_,[],_,h=>by simp[Go.Op.bytesLess]at h
 | [],_::_,_::_,_,_=>rfl
 | a::x,b::y,c::z,h1,h2=>by
  simp only[Go.Op.bytesLess,HA,Bool.or_eq_true,Bool.and_eq_true,decide_eq_true_iff,beq_iff_eq]at *
  rcases h1 with h1|⟨rfl,h1⟩
  ·rcases h2 with h2|⟨rfl,h2⟩
   ·exact .inl (by omega)
   ·exact .inl h1
  ·rcases h2 with h2|⟨rfl,h2⟩
   ·exact .inl h2
   ·exact .inr ⟨rfl,Ko h1 h2⟩
theorem Be:∀{p:bN} {prev:Option (List UInt8)},iB prev p=true→(∀n,prev=some n→∀c∈p,Go.Op.bytesLess n c.name=true)∧p.Pairwise fun a b=>Go.Op.bytesLess a.name b.name=true
 | [],_,_=>⟨fun _ _ _ h=>(by cases h),List.Pairwise.nil⟩
 | c::r,prev,h=>by
  simp only[iB,Bool.and_eq_true]at h
  obtain⟨⟨_,h2⟩,h3⟩:=h
  obtain⟨k1,k2⟩:=Be h3
  refine⟨fun n hn d hd=>?_,List.pairwise_cons.2 ⟨fun d hd=>k1 c.name rfl d hd,k2⟩⟩
  subst hn
  rcases List.mem_cons.1 hd with rfl|hd
  ·exact h2
  ·exact Ko h2 (k1 c.name rfl d hd)
theorem Ei:∀{p:bN} {prev:Option (List UInt8)},iB prev p=true→∀c∈p,cX c=true
 | [],_,_,_,h=>by cases h
 | c::r,prev,h,d,hd=>by
  simp only[iB,Bool.and_eq_true]at h
  rcases List.mem_cons.1 hd with rfl|hd
  ·exact h.1.1
  ·exact Ei h.2 d hd
theorem cZ.unlike{p:bN}(h:cZ p):oP p:=by
 have:=h.right
 unfold kO at this
 rw[Bool.and_eq_true]at this
 refine(Be this.1).2.imp fun {a b} hab e=>?_
 rw[e,MO]at hab
 cases hab
theorem cZ.each{p:bN}(h:cZ p):∀c∈p,cX c=true:=by
 have:=h.right
 unfold kO at this
 rw[Bool.and_eq_true]at this
 exact Ei this.1
theorem cZ.nil:cZ []:=⟨rfl,⟨by decide,fun c h=>by cases h⟩,by decide⟩
theorem Xg(x:kM):∀{b:bN},oP b→(∀y∈b,cX y=true)→inC x b=match b.find? (fun y=>decide (y.name=x.name))with
  | some y=>nS x y
  | none=>false
 | [],_,_=>rfl
 | y::r,hu,hr=>by
  unfold oP at hu
  rw[List.pairwise_cons]at hu
  unfold inC
  rw[List.any_cons,List.find?_cons]
  by_cases h:y.name=x.name
  ·rw[decide_eq_true h]
   have:(r.any fun y=>decide (y.name=x.name) && iM y x)=false:=by
    rw[List.any_eq_false]
    intro z hz
    have:¬z.name=x.name:=fun e=>hu.1 z hz (by rw[h,e])
    simp[this]
   rw[this,Bool.true_and,Bool.or_false]
   exact Lu (hr y (List.mem_cons_self ..))
  ·rw[decide_eq_false h,Bool.false_and,Bool.false_or]
   exact Xg x hu.2 fun z hz=>hr z (List.mem_cons_of_mem _ hz)
theorem Qz(a:bN){b:bN}(h:cZ b):(a.all fun x=>inC x b)=jO a b:=by
 unfold jO
 congr 1
 funext x
 exact Xg x h.unlike h.each
theorem PI(a b:bN)(XE:a.length≤1000000)(h:cZ b):pcF D B6 [bQ a,bQ b]=some (.bool (jO a b)):=by
 rw[←Qz a h]
 exact s258 a b XE (Nat.le_trans h.len (by decide))
theorem l198(t:Bool)(l:List bB)(c d:Int)(p:bN)(hl:l.length≤1000000)(hp:cZ p)(cT:∀e∈l,e.pred.length≤1000000)(h0:aA)(g1:h0.get 1=some (.arr 45 2 [.agg [.int .i64 c,.int .i64 d]] (some 1)))(aO:h0.lim=0) :
  ∀(rest:List bB) (i:Nat) (f:dJ) (h:aA),l.drop i=rest→f 2=bQ p→f 4=.ptr 1 2 0 0→f 10=eL t 7 aN l→f 11=.int .i64 l.length→f 12=.int .i64 i→Ext 2 h0 h →
  dY (fin [.t 6] (run D 31 [.block 0,.seq Pi] (.loop Gx) f h))=some (.bool (bV rest ⟨c,d⟩ p)):=by
 intro rest
 induction rest with
 | nil =>
  intro i f h hd h2 h4 jY pT pS hx
  have hi:=cY hd
  have:¬(i<l.length):=by omega
  rw[aC Gx.eq_1]
  simp[Pi,pT,pS,this,bV,ofT]
 | cons e rest ih =>
  intro i f h hd h2 h4 jY pT pS hx
  obtain⟨hi,he,fV⟩:=cN hd
  have No:=(hx.get 1 (by decide)).trans g1
  have hnh:=hx.le
  have n1:¬1=h.n:=by omega
  have Dh:h.lim=0:=hx.lim.trans aO
  have hw:IntKind.i64.wrap ((i:Int)+1)=(i:Int)+1:=bE (by omega) (by omega)
  have LG:=PI e.pred p (cT e (by rw[←he];exact List.getElem_mem hi)) hp
  have next:∀F H,F 2=bQ p→F 4=.ptr 1 2 0 0→F 10=eL t 7 aN l→F 11=.int .i64 l.length→F 12=.int .i64 ((i:Int)+1)→Ext 2 h0 H →
    dY (fin [.t 6] (run D 31 [.block 0,.seq Pi] (.loop Gx) F H))=some (.bool (bV rest ⟨c,d⟩ p)):=fun F H a1 a2 a3 a4 a5 a6=>ih (i+1) F H fV a1 a2 a3 a4 (by rw[a5];simp) a6
  rw[aC Gx.eq_1]
  by_cases ht:e.tree=⟨c,d⟩
  ·have vP:e.tree.aW=c:=by rw[ht]
   have Ge:e.tree.seq=d:=by rw[ht]
   have Ti:bV (e::rest) ⟨c,d⟩ p=((e.up && jO e.pred p) || bV rest ⟨c,d⟩ p):=by simp[bV,ofT,ht]
   rw[Ti]
   cases vM:e.up with
   | false =>
    simp[h2,h4,jY,pT,pS,hi,he,n1,No,aN,Dh,vP,Ge,vM,hw]
    exact next _ _ (by simp[h2]) (by simp[h4]) (by simp[jY]) (by simp[pT]) (by simp) hx.push
   | true =>
    cases hcp:jO e.pred p with
    | false =>
     rw[hcp]at LG
     simp[h2,h4,jY,pT,pS,hi,he,n1,No,aN,Dh,vP,Ge,vM,hw,s7,LG]
     exact next _ _ (by simp[h2]) (by simp[h4]) (by simp[jY]) (by simp[pT]) (by simp) hx.push
    | true =>
     rw[hcp]at LG
     simp[h2,h4,jY,pT,pS,hi,he,n1,No,aN,Dh,vP,Ge,vM,hw,s7,LG]
  ·have Jm:=En ht
   simp only at Jm
   have Ti:bV (e::rest) ⟨c,d⟩ p=bV rest ⟨c,d⟩ p:=by simp[bV,ofT,ht]
   rw[Ti]
   simp[h2,h4,jY,pT,pS,hi,he,n1,No,aN,Dh,Jm,hw]
   exact next _ _ (by simp[h2]) (by simp[h4]) (by simp[jY]) (by simp[pT]) (by simp) hx.push
theorem c6(x0 x1 x2 x3 x5:DV)(t:Bool)(l:List bB)(c d:Int)(p:bN)(hl:l.length≤1000000)(hp:cZ p)(cT:∀e∈l,e.pred.length≤1000000) :
  pcF D AL [.agg [x0,x1,x2,x3,eL t 7 aN l,x5],.agg [.int .i64 c,.int .i64 d],bQ p]=some (.bool (bV l ⟨c,d⟩ p)):=by
 unfold pcF
 rw[aP _ _ _ _ (by simp[AL])]
 simp[AL]
 refine(l198 t l c d p hl hp cT _ ?_ ?_ l 0 _ _ rfl ?_ ?_ ?_ ?_ ?_ (Ext.refl ?_ ?_)).trans ?_<;>simp
end Go.Dm.Tc
/-
What functions of the program compute,part 18: an entry added.
-/
namespace Go.Dm.Tc
def zW(e:bB)(l:List bB):List bB:=l.take (aV (gU e.tree e.sub) l)++e::l.drop (aV (gU e.tree e.sub) l)
def nZ(b:aF)(e:bB):Bool :=
 match b.aG.find? (fun a=>a.id=e.tree)with
 | none=>false
 | some a=>!(b.entries.any (isE e.tree e.sub)) && !(decide (e.cJ=a.bP) && !decide (a.bP=-1))
def yF(b:aF)(e:bB):Bool:=!decide (dP b e.tree=-1) && !bV b.entries e.tree e.pred
def fZ(b:aF)(e:bB):aF×Bool :=
 if nZ b e=true then({b with entries:=zW {e with up:=yF b e} b.entries},yF b e)else(b,false)
theorem LM{l:List bB}{t s:ID}:l.any (isE t s)=lX (l.find? (isE t s)):=by
 cases h:l.find? (isE t s)with
 | none =>
  rw[List.any_eq_false.2]
  ·rfl
  ·intro x hx
   have:=List.find?_eq_none.1 h x hx
   simpa using this
 | some a=>exact List.any_eq_true.2 ⟨a,List.mem_of_find?_eq_some h,List.find?_some h⟩
end Go.Dm.Tc
/-
What the reference's functions compute,part 6: an entry added.
-/
namespace Go.Dm.Tc
theorem l114(S:List Fr)(h:aA)(x0 x1 x2 x3 x5:DV)(l:List bB)(tc td sc sd:Int)(p q r:DV)(hl:l.length≤1000000)
  (g0:h.get 0=some (.arr 37 6 [.agg [x0,x1,x2,x3,eL false 7 aN l,x5]] (some 1))) (g1:h.get 1=some (.arr 70 7 [.agg [.int .i64 tc,.int .i64 td,.int .i64 sc,.int .i64 sd,p,q,r]] (some 1))) (aO:h.lim=0) :
  ∀(n i:Nat) (f:dJ),aV (gU ⟨tc,td⟩ ⟨sc,sd⟩) l-i=n→i≤aV (gU ⟨tc,td⟩ ⟨sc,sd⟩) l→f 2=.ptr 0 6 0 0→f 3=.ptr 1 7 0 0→f 7=.int .i64 i →
  ∃ f',run D 115 (.block 0::.seq vZ::S) (.loop zH) f h=run D 115 S vZ f' h∧f' 2=.ptr 0 6 0 0∧f' 3=.ptr 1 7 0 0∧f' 4=f 4∧f' 5=f 5∧f' 7=.int .i64 (aV (gU ⟨tc,td⟩ ⟨sc,sd⟩) l):=by
 intro n
 induction n with
 | zero =>
  intro i f hn hi h2 h3 h7
  have fY:aV (gU ⟨tc,td⟩ ⟨sc,sd⟩) l=i:=by omega
  rw[aC zH.eq_1]
  by_cases aZ:i<l.length
  ·have WW:=Bi (gU ⟨tc,td⟩ ⟨sc,sd⟩) hi (List.getElem?_eq_getElem aZ)
   have hnn:¬gU ⟨tc,td⟩ ⟨sc,sd⟩ l[i]<0:=fun hc=>by have:=WW.1 hc;omega
   rw[uC]at hnn
   obtain⟨e,he⟩:∃ e,l[i]=e:=⟨_,rfl⟩
   rw[he]at hnn
   have GH:iD ⟨e.tree.aW,e.tree.seq⟩ ⟨tc,td⟩=false:=by
    cases hq:iD e.tree ⟨tc,td⟩with
    | false=>rfl
    | true=>exact absurd (.inl hq) hnn
   by_cases ht:e.tree=⟨tc,td⟩
   ·have vP:e.tree.aW=tc:=by rw[ht]
    have Ge:e.tree.seq=td:=by rw[ht]
    have hn2:iD ⟨e.sub.aW,e.sub.seq⟩ ⟨sc,sd⟩=false:=by
     cases hq:iD e.sub ⟨sc,sd⟩with
     | false=>rfl
     | true=>exact absurd (.inr ⟨ht,hq⟩) hnn
    simp[h2,h3,h7,g0,g1,aZ,he,aO,aN,Ke,Hw,GH,hn2]
    simp only[vP,Ge]at GH
    simp[vP,Ge,GH,Ke,Hw,hn2]
    exact⟨_,rfl,by simp[h2],by simp[h3],by simp,by simp,by simp[h7,fY]⟩
   ·have Jm:=En ht
    simp only at Jm
    simp[h2,h3,h7,g0,g1,aZ,he,aO,aN,Ke,Hw,GH,Jm]
    exact⟨_,rfl,by simp[h2],by simp[h3],by simp,by simp,by simp[h7,fY]⟩
  ·simp[h2,h3,h7,g0,g1,aZ]
   exact⟨_,rfl,by simp[h2],by simp[h3],by simp,by simp,by simp[h7,fY]⟩
 | succ n ih =>
  intro i f hn hi h2 h3 h7
  have aZ:i<l.length:=by have:=eI (gU ⟨tc,td⟩ ⟨sc,sd⟩) l;omega
  obtain⟨e,he⟩:∃ e,l[i]=e:=⟨_,rfl⟩
  have hyes:gU ⟨tc,td⟩ ⟨sc,sd⟩ e<0:=by
   have:=Rs (gU ⟨tc,td⟩ ⟨sc,sd⟩) (l:=l) (i:=i) (a:=l[i]) (by omega) (List.getElem?_eq_getElem aZ)
   rw[he]at this
   exact of_decide_eq_true this
  rw[uC]at hyes
  have hw:IntKind.i64.wrap ((i:Int)+1)=(i:Int)+1:=bE (by omega) (by omega)
  rw[aC zH.eq_1]
  have next:∀F,F 2=.ptr 0 6 0 0→F 3=.ptr 1 7 0 0→F 4=f 4→F 5=f 5→F 7=.int .i64 ((i:Int)+1) →
    ∃ f',run D 115 (.block 0::.seq vZ::S) (.loop zH) F h=run D 115 S vZ f' h∧f' 2=.ptr 0 6 0 0∧f' 3=.ptr 1 7 0 0∧f' 4=f 4∧f' 5=f 5∧f' 7=.int .i64 (aV (gU ⟨tc,td⟩ ⟨sc,sd⟩) l):=fun F a1 a2 a3 a4 a5=>by
   obtain⟨f',k1,k2,k3,k4,k5,k6⟩:=ih (i+1) F (by omega) (by omega) a1 a2 (by rw[a5];simp)
   exact⟨f',k1,k2,k3,by rw[k4,a3],by rw[k5,a4],k6⟩
  cases hq:iD e.tree ⟨tc,td⟩with
  | true =>
   have tJ:iD ⟨e.tree.aW,e.tree.seq⟩ ⟨tc,td⟩=true:=hq
   simp[h2,h3,h7,g0,g1,aZ,he,aO,aN,Ke,Hw,tJ,hw]
   generalize hF:upd _ 7 _=F
   exact next F (by rw[←hF];simp[h2]) (by rw[←hF];simp[h3]) (by rw[←hF];simp) (by rw[←hF];simp) (by rw[←hF];simp)
  | false =>
   obtain⟨ht,hs⟩:=hyes.resolve_left (by rw[hq];simp)
   have tJ:iD ⟨e.tree.aW,e.tree.seq⟩ ⟨tc,td⟩=false:=hq
   have yT:iD ⟨e.sub.aW,e.sub.seq⟩ ⟨sc,sd⟩=true:=hs
   have vP:e.tree.aW=tc:=by rw[ht]
   have Ge:e.tree.seq=td:=by rw[ht]
   simp only[vP,Ge]at tJ
   simp[h2,h3,h7,g0,g1,aZ,he,aO,aN,Ke,Hw,vP,Ge,tJ,yT,hw]
   generalize hF:upd _ 7 _=F
   exact next F (by rw[←hF];simp[h2]) (by rw[←hF];simp[h3]) (by rw[←hF];simp) (by rw[←hF];simp) (by rw[←hF];simp)
end Go.Dm.Tc
/-
What the reference's functions compute,part 7: an entry added,all of it.
-/
namespace Go.Dm.Tc
theorem v114(me:Int)(aL:List Int)(adv:List bD)(seen:List ID)(ent:List bB)(own:List fQ)(tc td sc sd:Int)(p:bN)(cJ:Int)(U:Bool)(mP:ent.length≤100000)(F:dJ)(H:aA)
  (g0:H.get 0=some (.arr 37 6 [.agg [.int .i64 me,eL false 1 cF aL,eL false 4 aJ adv,eL false 2 eID seen,eL false 7 aN ent,eL false 3 cB own]] (some 1)))
  (g1:H.get 1=some (.arr 70 7 [.agg [.int .i64 tc,.int .i64 td,.int .i64 sc,.int .i64 sd,bQ p,.int .i64 cJ,.bool U]] (some 1)))
  (g2:H.get 2=some (.arr 37 6 [.agg [.int .i64 0,.nsl,.nsl,.nsl,.nsl,.nsl]] (some 1))) (aO:H.lim=0) (hn:3≤H.n) (wf:WF H) (h2:F 2=.ptr 0 6 0 0) (h3:F 3=.ptr 1 7 0 0) (h4:F 4=.ptr 2 6 0 0) (h7:F 7=.int .i64 0) :
  dY (fin [.cell 4 (some 6),.t 5] (run D 115 [.block 0,.seq vZ] (.loop zH) F H))=some (.tup [aI .none ⟨me,aL,adv,seen,zW ⟨⟨tc,td⟩,⟨sc,sd⟩,p,cJ,U⟩ ent,own⟩,.bool U]):=by
 obtain⟨f1,k1,k2,k3,k4,k5,k6⟩:=l114 [] H (.int .i64 me) (eL false 1 cF aL) (eL false 4 aJ adv) (eL false 2 eID seen) (eL false 3 cB own) ent tc td sc sd (bQ p) (.int .i64 cJ) (.bool U) (by omega) g0 g1 aO _ 0 F rfl (by omega) h2 h3 h7
 rw[k1]
 rw[h4]at k4
 clear k1
 have jU:=eI (gU ⟨tc,td⟩ ⟨sc,sd⟩) ent
 have v0:¬0=H.n:=by omega
 have v1:¬1=H.n:=by omega
 have v2:¬2=H.n:=by omega
 have v3:¬H.n=0:=by omega
 have v4:¬H.n=1:=by omega
 simp[vZ,k2,k3,k4,k6,jU,g0,g1,g2,aO,wf,v0,v1,v2,v3,v4]
 generalize hA:aU _ _ _ _ _ _=A
 obtain⟨i1,K1,rfl,o1,x1,y1,j1⟩:=(dL.fresh (lo:=3) (ety:=70) (sz:=7) (xs:=[]) (cap:=some 0) (by omega) hn).append (n:=0) rfl wf.push (by simp;omega) (by simp[aO]) hA (by simp;omega) (by decide)
 clear hA
 have a0:=x1.get 0 (by decide)
 have a1:=x1.get 1 (by decide)
 have a2:=x1.get 2 (by decide)
 have q1:=x1.lim
 have w1:=x1.wf
 have n1:=x1.le
 have u1:=o1.lo
 have m0:¬0=i1:=by omega
 have m1:¬i1=0:=by omega
 have m2:¬i1=1:=by omega
 have m3:¬1=i1:=by omega
 simp[g0,g1,g2,v0,v1,v2,aO]at a0 a1 a2 q1 o1
 simp[k2,k3,g0,g1,a0,a1,a2,q1,m0,m1,m2,m3,v3,v4,jU]
 generalize hA:aU _ _ _ _ _ _=A
 obtain⟨i2,K2,rfl,o2,x2,y2,j2⟩:=(o1.push (o:=_)).append (by simp[jU]) (by simp[w1]) (by simp;omega) (by simp[q1]) hA (by simp;omega) (by decide)
 clear hA
 have b0:=x2.get 0 (by decide)
 have b1:=x2.get 1 (by decide)
 have b2:=x2.get 2 (by decide)
 have q2:=x2.lim
 have w2:=x2.wf
 have n2:=x2.le
 have u2:=o2.lo
 have c0:¬0=K1.n:=by omega
 have c1:¬1=K1.n:=by omega
 have c2:¬2=K1.n:=by omega
 have m4:¬i2=0:=by omega
 have m5:¬i2=1:=by omega
 simp[a0,a1,a2,q1,c0,c1,c2]at b0 b1 b2 q2 o2
 simp[k2,k3,k6,g0,g1,a0,b0,b1,b2,q2,m0,m1,m2,m3,m4,m5,v3,v4,jU]
 generalize hA:aU _ _ _ _ _ _=A
 obtain⟨i3,K3,rfl,o3,x3,y3,j3⟩:=o2.append (by simp[jU]) w2 n2 (by omega) hA (by simp;omega) (by decide)
 clear hA
 have d0:=x3.get 0 (by decide)
 have d1:=x3.get 1 (by decide)
 have d2:=x3.get 2 (by decide)
 have q3:=x3.lim
 have w3:=x3.wf
 have n3:=x3.le
 have l3:0<K3.n:=by omega
 have l32:2<K3.n:=by omega
 rw[b0]at d0
 rw[b1]at d1
 rw[b2]at d2
 rw[q2]at q3
 have cM:(List.take (aV (gU ⟨tc,td⟩ ⟨sc,sd⟩) ent) (List.map aN ent)++DV.agg [.int .i64 tc,.int .i64 td,.int .i64 sc,.int .i64 sd,bQ p,.int .i64 cJ,.bool U]::List.drop (aV (gU ⟨tc,td⟩ ⟨sc,sd⟩) ent) (List.map aN ent))=(zW ⟨⟨tc,td⟩,⟨sc,sd⟩,p,cJ,U⟩ ent).map aN:=by simp[zW,aN]
 simp only[List.append_assoc,List.singleton_append]at o3
 rw[cM]at o3
 have oG:min (aV (gU ⟨tc,td⟩ ⟨sc,sd⟩) ent) ent.length=aV (gU ⟨tc,td⟩ ⟨sc,sd⟩) ent:=by omega
 have ED:(zW ⟨⟨tc,td⟩,⟨sc,sd⟩,p,cJ,U⟩ ent).length=aV (gU ⟨tc,td⟩ ⟨sc,sd⟩) ent+1+(ent.length-aV (gU ⟨tc,td⟩ ⟨sc,sd⟩) ent):=by simp[zW,oG];omega
 have r4:=fun o o'=>((o3.toR.bU (o:=o) w3 (by decide) l3).bU (o:=o') w3.set (by decide) l32).resolve (n:=198) false (fun y _=>(fW y).1) (by decide)
 simp only[List.length_map,ED]at r4
 simp[k2,k3,k4,g0,d0,d1,d2,q3,w3,l3,l32,turn,oG,v3,v4,m1,m4,r4,aT]
 simp[aI,dZ.none]
theorem s114(b:aF)(e:bB)(hs:jF b)(hq:Al b)(hpo:cZ e.pred):
  pcF D zI [aI .none b,.agg [.int .i64 e.tree.aW,.int .i64 e.tree.seq,.int .i64 e.sub.aW,.int .i64 e.sub.seq,bQ e.pred,.int .i64 e.cJ,.bool e.up]]=some (.tup [aI .none (fZ b e).1,.bool (fZ b e).2]):=by
 obtain⟨me,aL,adv,seen,ent,own⟩:=b
 obtain⟨⟨tc,td⟩,⟨sc,sd⟩,p,cJ,up⟩:=e
 obtain⟨z1,z2,z3,z4,z5⟩:=hs
 simp only at z1 z2 z3 z4 z5 hpo
 obtain⟨R,hR⟩:∃ R,R=DV.tup [aI .none (fZ ⟨me,aL,adv,seen,ent,own⟩ ⟨⟨tc,td⟩,⟨sc,sd⟩,p,cJ,up⟩).1,.bool (fZ ⟨me,aL,adv,seen,ent,own⟩ ⟨⟨tc,td⟩,⟨sc,sd⟩,p,cJ,up⟩).2]:=⟨_,rfl⟩
 rw[←hR]
 have Lz:adv.length≤1000000:=by omega
 have mP:ent.length≤1000000:=by omega
 have wN:=tK (fun a:bD=>decide (a.id=⟨tc,td⟩)) adv
 have EF:=tK (isE ⟨tc,td⟩ ⟨sc,sd⟩) ent
 have hany:=LM (l:=ent) (t:=⟨tc,td⟩) (s:=⟨sc,sd⟩)
 have hEn:=c7 (.int .i64 me) (eL false 1 cF aL) (eL false 4 aJ adv) (eL false 2 eID seen) (eL false 3 cB own) false ent tc td sc sd mP
 have hCv:=c6 (.int .i64 me) (eL false 1 cF aL) (eL false 4 aJ adv) (eL false 2 eID seen) (eL false 3 cB own) false ent tc td p mP hpo hq.len
 unfold pcF
 rw[aP _ _ _ _ (by simp[zI])]
 cases Zs:adv.find? (fun a=>decide (a.id=⟨tc,td⟩))with
 | none =>
  rw[Zs]at wN
  simp only at wN
  have N4:nZ ⟨me,aL,adv,seen,ent,own⟩ ⟨⟨tc,td⟩,⟨sc,sd⟩,p,cJ,up⟩=false:=by simp[nZ,Zs]
  simp[zI,aI,dZ.none,Ce,Ba,Lz,wN,eM,turn,aT]
  simp[hR,fZ,N4,aI,dZ.none]
 | some a =>
  rw[Zs]at wN
  simp only at wN
  obtain⟨j,hj,GJ⟩:=wN
  have TD:¬(j:Int)<0:=by omega
  cases Nl:ent.find? (isE ⟨tc,td⟩ ⟨sc,sd⟩)with
  | some e2 =>
   rw[Nl]at EF hany
   simp only at EF
   obtain⟨k,hk,_⟩:=EF
   rw[hk]at hEn
   have Lw:(0:Int)≤(k:Int):=by omega
   have N4:nZ ⟨me,aL,adv,seen,ent,own⟩ ⟨⟨tc,td⟩,⟨sc,sd⟩,p,cJ,up⟩=false:=by simp only[nZ,Zs,hany];simp[lX]
   simp[zI,aI,dZ.none,Ce,Ba,Lz,hj,TD,eM,Kd,hEn,Lw,turn,aT]
   simp[hR,fZ,N4,aI,dZ.none]
  | none =>
   rw[Nl]at EF hany
   simp only at EF
   rw[EF]at hEn
   by_cases Xq:cJ=a.bP∧¬a.bP=-1
   ·have N4:nZ ⟨me,aL,adv,seen,ent,own⟩ ⟨⟨tc,td⟩,⟨sc,sd⟩,p,cJ,up⟩=false:=by simp only[nZ,Zs,hany];simp[Xq.1,Xq.2]
    have hf1:=Xq.1
    have hf2:=Xq.2
    subst hf1
    simp[zI,aI,dZ.none,Ce,Ba,Lz,hj,TD,GJ,aJ,eM,Kd,hEn,hf2,turn,aT]
    simp[hR,fZ,N4,aI,dZ.none]
   ·have N4:nZ ⟨me,aL,adv,seen,ent,own⟩ ⟨⟨tc,td⟩,⟨sc,sd⟩,p,cJ,up⟩=true:=by
     simp only[nZ,Zs,hany,lX]
     by_cases h1:cJ=a.bP
     ·have h2:a.bP=-1:=by
       by_cases h2:a.bP=-1
       ·exact h2
       ·exact absurd ⟨h1,h2⟩ Xq
      simp[h2]
     ·simp[h1]
    have Lv:dP ⟨me,aL,adv,seen,ent,own⟩ ⟨tc,td⟩=a.bP:=by simp[dP,Zs]
    have Bu:∀U F H,yF ⟨me,aL,adv,seen,ent,own⟩ ⟨⟨tc,td⟩,⟨sc,sd⟩,p,cJ,up⟩=U→H.get 0=some (.arr 37 6 [.agg [.int .i64 me,eL false 1 cF aL,eL false 4 aJ adv,eL false 2 eID seen,eL false 7 aN ent,eL false 3 cB own]] (some 1))→H.get 1=some (.arr 70 7 [.agg [.int .i64 tc,.int .i64 td,.int .i64 sc,.int .i64 sd,bQ p,.int .i64 cJ,.bool U]] (some 1)) →
      H.get 2=some (.arr 37 6 [.agg [.int .i64 0,.nsl,.nsl,.nsl,.nsl,.nsl]] (some 1))→H.lim=0→3≤H.n→WF H→F 2=.ptr 0 6 0 0→F 3=.ptr 1 7 0 0→F 4=.ptr 2 6 0 0→F 7=.int .i64 0 →
      dY (fin [.cell 4 (some 6),.t 5] (run D 115 [.block 0,.seq vZ] (.loop zH) F H))=some R:=fun U F H u a0 a1 a2 a3 a4 a5 a6 a7 a8 a9=>by
     rw[v114 me aL adv seen ent own tc td sc sd p cJ U z4 F H a0 a1 a2 a3 a4 a5 a6 a7 a8 a9,hR]
     simp[fZ,N4,u]
    by_cases yU:a.bP=-1
    ·have vM:yF ⟨me,aL,adv,seen,ent,own⟩ ⟨⟨tc,td⟩,⟨sc,sd⟩,p,cJ,up⟩=false:=by simp[yF,Lv,yU]
     by_cases TF:cJ=-1
     ·simp[zI,aI,dZ.none,Ce,Ba,Lz,hj,TD,GJ,aJ,eM,Kd,hEn,yU,eq_true TF,turn]
      refine Bu false _ _ vM ?_ ?_ ?_ ?_ ?_ ?_ ?_ ?_ ?_ ?_<;>simp
     ·simp[zI,aI,dZ.none,Ce,Ba,Lz,hj,TD,GJ,aJ,eM,Kd,hEn,yU,TF,turn]
      refine Bu false _ _ vM ?_ ?_ ?_ ?_ ?_ ?_ ?_ ?_ ?_ ?_<;>simp
    ·have hfne:¬cJ=a.bP:=fun e=>Xq ⟨e,yU⟩
     cases hC:bV ent ⟨tc,td⟩ p with
     | true =>
      rw[hC]at hCv
      have vM:yF ⟨me,aL,adv,seen,ent,own⟩ ⟨⟨tc,td⟩,⟨sc,sd⟩,p,cJ,up⟩=false:=by simp[yF,hC]
      by_cases TF:cJ=-1
      ·simp[zI,aI,dZ.none,Ce,Ba,Lz,hj,TD,GJ,aJ,eM,Kd,hEn,yU,hfne,eq_true TF,FA,hCv,turn]
       refine Bu false _ _ vM ?_ ?_ ?_ ?_ ?_ ?_ ?_ ?_ ?_ ?_<;>simp
      ·simp[zI,aI,dZ.none,Ce,Ba,Lz,hj,TD,GJ,aJ,eM,Kd,hEn,yU,hfne,TF,FA,hCv,turn]
       refine Bu false _ _ vM ?_ ?_ ?_ ?_ ?_ ?_ ?_ ?_ ?_ ?_<;>simp
     | false =>
      rw[hC]at hCv
      have vM:yF ⟨me,aL,adv,seen,ent,own⟩ ⟨⟨tc,td⟩,⟨sc,sd⟩,p,cJ,up⟩=true:=by simp[yF,Lv,yU,hC]
      by_cases TF:cJ=-1
      ·simp[zI,aI,dZ.none,Ce,Ba,Lz,hj,TD,GJ,aJ,eM,Kd,hEn,yU,hfne,eq_true TF,FA,hCv,turn]
       refine Bu true _ _ vM ?_ ?_ ?_ ?_ ?_ ?_ ?_ ?_ ?_ ?_<;>simp
      ·simp[zI,aI,dZ.none,Ce,Ba,Lz,hj,TD,GJ,aJ,eM,Kd,hEn,yU,hfne,TF,FA,hCv,turn]
       refine Bu true _ _ vM ?_ ?_ ?_ ?_ ?_ ?_ ?_ ?_ ?_ ?_<;>simp
end Go.Dm.Tc
/-
Two rows of one element type side by side: what is put behind one leaves the other one alone.
-/
namespace Go.Dm.Tc
def Cl(v:DV)(k:Nat):Prop:=∀sz off len,v≠.sl k sz off len
theorem Cj{lo:Nat}{h:aA}{v:DV}{ety sz bytes:Nat}{xs ys:List DV}{A:Option (DV×aA)}(w:OwnR lo h v ety sz xs)(wf:WF h)(fY:lo≤h.n)(aO:h.lim≤h.n)(hA:aU h ety sz bytes v ys=A)
  (hb:(xs.length+ys.length)*bytes≤140737488355328) (Jk:1≤bytes) :
  ∃ v' h',A=some (v',h')∧OwnR lo h' v' ety sz (xs++ys)∧Ext lo h h'∧(∀k,k<h.n→Cl v k→h'.get k=h.get k)∧(∀k,k<h.n→Cl v k→Cl v' k):=by
 have hm:xs.length+ys.length≤140737488355328:=Nat.le_trans (Nat.le_mul_of_pos_right _ Jk) hb
 by_cases hy:ys=[]
 ·subst hy
  refine⟨v,h,?_,by simpa using w,.refl fY wf,fun _ _ _=>rfl,fun _ _ q=>q⟩
  rw[←hA]
  cases w with
  | nil hv hx=>subst hv;rfl
  | arr id sp cap hv hg _ _=>subst hv;rfl
 ·have Xj:ys.isEmpty=false:=by cases ys<;>simp_all
  have hyl:0<ys.length:=List.length_pos_iff.2 hy
  cases w with
  | nil hv hx =>
   subst hv;subst hx
   simp only[List.length_nil,Nat.zero_add]at hb hm
   refine⟨.sl h.n sz 0 ys.length,h.push (.arr ety sz ys none),?_,.arr h.n [] none rfl (by simp[dC]) (by exact aO) fY,(Ext.refl fY wf).push,fun k hk _=>by rw[dC,if_neg (by omega)],fun k hk _ eG off' len' e=>by injection e;omega⟩
   rw[←hA]
   simp only[aU,Xj]
   rw[if_neg (by simp),if_pos ⟨hb,by omega⟩]
  | arr id sp cap hv hg hl hi =>
   subst hv
   have aZ:=cI hg
   have dW:∀k,Cl (.sl id sz 0 xs.length) k→k≠id:=fun k q e=>by subst e;exact q _ _ _ rfl
   by_cases Fm:xs.length+ys.length≤(xs++sp).length
   ·refine⟨.sl id sz 0 (xs.length+ys.length),h.set id (.arr ety sz (gZ (xs++sp) ys xs.length) cap),?_,.arr id (sp.drop ys.length) cap (by simp) ?_ (by exact hl) hi,(Ext.refl fY wf).set hi aZ,fun k _ q=>by rw[fU wf aZ,if_neg (dW k q)],fun k _ q eG off' len' e=>by injection e with e1;exact dW k q e1.symm⟩
    ·rw[←hA];exact Aj hg Fm hl hb Jk hy
    ·rw[fU wf aZ,if_pos rfl]
     simp only[gZ,List.take_left',List.append_assoc]
     congr 3
     rw[List.drop_append]
     simp
   ·cases cap with
    | none =>
     refine⟨.sl h.n sz 0 (xs.length+ys.length),(h.set id .dead).push (.arr ety sz (xs++ys) none),?_,.arr h.n [] none (by simp) ?_ (by exact aO) fY,((Ext.refl fY wf).set hi aZ).push,fun k hk q=>by rw[dC,if_neg (by show ¬k=h.n;omega),fU wf aZ,if_neg (dW k q)],fun k hk _ eG off' len' e=>by injection e;omega⟩
     ·rw[←hA]
      simp only[aU,Xj,hg]
      simp only[Bool.false_eq_true,if_false,true_and,Nat.zero_add,List.drop_zero]
      rw[if_pos ⟨by simp,hb,by omega⟩,if_neg Fm,if_pos hl]
      simp
     ·simpa using iQ (h:=h.set id .dead)
    | some c =>
     refine⟨.sl h.n sz 0 (xs.length+ys.length),h.push (.arr ety sz (xs++ys) none),?_,.arr h.n [] none (by simp) ?_ (by exact aO) fY,(Ext.refl fY wf).push,fun k hk _=>by rw[dC,if_neg (by omega)],fun k hk _ eG off' len' e=>by injection e;omega⟩
     ·rw[←hA]
      rw[xF hg (by simp) (by omega) hb Jk hy]
      simp
     ·simpa using iQ (h:=h)
def fM(tree:ID):List bB→List bB→List bB→List bB×List bB
 | done,[],mO=>(done,mO)
 | done,e::r,mO=>if e.tree=tree∧e.up=false∧bV (done++e::r) tree e.pred=false then fM tree (done++[{e with up:=true}]) r (mO++[{e with up:=true}])else fM tree (done++[e]) r mO
def dK(b : aF)(tree sub : ID)(cJ : Int) : aF × List bB × Bool :=
  match b.entries.find? (isE tree sub)with
  | none => (b, [], false)
  | some e => if e.cJ = cJ then
      (if e.up = true then({ b with entries := (fM tree [] (b.entries.filter fun x => !isE tree sub x) []).1 }, (fM tree [] (b.entries.filter fun x => !isE tree sub x) []).2, true)
       else({ b with entries := b.entries.filter fun x => !isE tree sub x }, [], false))
    else(b, [], false)
end Go.Dm.Tc
/-
What functions of the program compute,part 19: an entry taken out (the loop).
-/
namespace Go.Dm.Tc
theorem V1{lo:Nat}{h:aA}{v:DV}{ety sz:Nat}{xs:List DV}(w:OwnR lo h v ety sz xs)(wf:WF h){id:Nat}{o:DO}(aZ:id<h.n)(na:Cl v id):OwnR lo (h.set id o) v ety sz xs:=by
 cases w with
 | nil hv hx=>exact .nil hv hx
 | arr k sp cap hv hg hl hi =>
  have dW:¬k=id:=fun e=>by subst e;exact na _ _ _ hv
  exact .arr k sp cap hv (by rw[fU wf aZ,if_neg dW];exact hg) hl hi
theorem Fx{lo:Nat}{h:aA}{v:DV}{ety sz:Nat}{xs:List DV}(w:OwnR lo h v ety sz xs){k:Nat}(hk:k<lo):Cl v k:=by
 intro a b c e
 cases w with
 | nil hv hx=>rw[hv]at e;cases e
 | arr id sp cap hv hg hl hi=>rw[hv]at e;injection e;omega
end Go.Dm.Tc
/-
What functions of the program compute,part 20: an entry taken out.
-/
namespace Go.Dm.Tc
theorem LZ{l:List bB}(hr:jR l){t s:ID}{i:Nat}{a:bB}(hi:l[i]?=some a)(ha:isE t s a=true):l.take i++l.drop (i+1)=l.filter fun x=>!isE t s x:=by
 have aZ:i<l.length:=by
  by_cases h:i<l.length
  ·exact h
  ·rw[List.getElem?_eq_none (by omega)]at hi;cases hi
 have Ji:l[i]=a:=by rw[List.getElem?_eq_getElem aZ]at hi;exact Option.some.inj hi
 have GM:a.tree=t∧a.sub=s:=by simpa[isE]using ha
 have h0:gU t s a=0:=uD.2 GM
 have dW:∀j (hj:j<l.length),j≠i→isE t s l[j]=false:=by
  intro j hj hji
  cases he:isE t s l[j]with
  | false=>rfl
  | true =>
   have vR:l[j].tree=t∧l[j].sub=s:=by simpa[isE]using he
   rcases Nat.lt_or_gt_of_ne hji with h|h
   ·have:=List.pairwise_iff_getElem.1 hr j i hj aZ h
    rw[Ji,GM.1,GM.2,uD.2 vR]at this
    omega
   ·have:=List.pairwise_iff_getElem.1 hr i j aZ hj h
    rw[Ji,vR.1,vR.2,h0]at this
    omega
 have h1:(l.take i).filter (fun x=>!isE t s x)=l.take i:=by
  rw[List.filter_eq_self]
  intro y hy
  obtain⟨j,hj,rfl⟩:=List.mem_iff_getElem.1 hy
  rw[List.length_take]at hj
  have:=dW j (by omega) (by omega)
  simpa using this
 have h2:(l.drop (i+1)).filter (fun x=>!isE t s x)=l.drop (i+1):=by
  rw[List.filter_eq_self]
  intro y hy
  obtain⟨j,hj,rfl⟩:=List.mem_iff_getElem.1 hy
  rw[List.length_drop]at hj
  have:=dW (i+1+j) (by omega) (by omega)
  simpa using this
 have h3:(l.drop i).filter (fun x=>!isE t s x)=l.drop (i+1):=by
  rw[List.drop_eq_getElem_cons aZ,List.filter_cons,Ji,ha,h2];simp
 calc l.take i++l.drop (i+1)=(l.take i++l.drop i).filter (fun x=>!isE t s x):=by rw[List.filter_append,h1,h3]
  _=_:=by rw[List.take_append_drop]
end Go.Dm.Tc
/-
What the reference's functions compute,part 8: an entry taken out (the loop).
-/
namespace Go.Dm.Tc
theorem JX{lo:Nat}{h:aA}{v:DV}{ety sz:Nat}{xs:List DV}(w:OwnR lo h v ety sz xs){k:Nat}(hk:h.n≤k):Cl v k:=by
 intro a b c e
 cases w with
 | nil hv hx=>rw[hv]at e;cases e
 | arr id sp cap hv hg hl hi=>rw[hv]at e;injection e with e1;have:=cI hg;omega
set_option maxHeartbeats 3200000 in
theorem l199(S:List Fr)(me:Int)(aL:List Int)(adv:List bD)(seen:List ID)(own:List fQ)(tc td:Int)(n:Nat)(zb:DO) :
  ∀(rest done mO:List bB) (i4:Nat) (f:dJ) (h:aA),done.length+rest.length=n→n≤100000→mO.length≤done.length→(∀e∈done++rest,cZ e.pred) →
   f 4=.ptr 0 6 0 0→f 5=.ptr 1 2 0 0→f 8=.ptr 3 6 0 0→f 57=.int .i64 n→f 58=.int .i64 done.length →
   h.get 0=some (.arr 37 6 [.agg [.int .i64 me,eL false 1 cF aL,eL false 4 aJ adv,eL false 2 eID seen,.sl i4 7 0 n,eL false 3 cB own]] (some 1))→h.get 1=some (.arr 45 2 [.agg [.int .i64 tc,.int .i64 td]] (some 1))→h.get 3=some zb →
   dL 4 h i4 70 7 ((done++rest).map aN)→OwnR 4 h (f 13) 70 7 (mO.map aN)→Cl (f 13) i4→h.lim=0→4≤h.n→WF h →
  ∃ i5 f' h',run D 104 (.block 0::.seq Cs::S) (.loop Gw) f h=run D 104 S Cs f' h'∧f' 4=.ptr 0 6 0 0∧f' 8=.ptr 3 6 0 0 ∧
   h'.get 0=some (.arr 37 6 [.agg [.int .i64 me,eL false 1 cF aL,eL false 4 aJ adv,eL false 2 eID seen,.sl i5 7 0 n,eL false 3 cB own]] (some 1))∧h'.get 3=some zb ∧
   dL 4 h' i5 70 7 ((fM ⟨tc,td⟩ done rest mO).1.map aN)∧OwnR 4 h' (f' 13) 70 7 ((fM ⟨tc,td⟩ done rest mO).2.map aN)∧(fM ⟨tc,td⟩ done rest mO).1.length=n∧h'.lim=0∧4≤h'.n∧WF h':=by
 intro rest
 induction rest with
 | nil =>
  intro done mO i4 f h hn GH hu hp h4 h5 h8 NU TJ g0 g1 g3 o4 o9 na aO hn4 wf
  have:¬(done.length<n):=by simp at hn;omega
  rw[aC Gw.eq_1]
  simp[NU,TJ,this]
  refine⟨i4,_,_,rfl,by simp[h4],by simp[h8],g0,g3,?_,?_,?_,aO,hn4,wf⟩
  ·simpa[fM]using o4
  ·simpa[fM]using o9
  ·simpa[fM]using hn
 | cons e rest ih =>
  intro done mO i4 f h hn GH hu hp h4 h5 h8 NU TJ g0 g1 g3 o4 o9 na aO hn4 wf
  have aZ:done.length<n:=by simp at hn;omega
  have eO:=o4.lt
  have fY:=o4.lo
  have hL:(done++e::rest).length=n:=by simp at hn ⊢;omega
  have o4':=o4
  obtain⟨⟨sp,cap,g4⟩,hl4,_⟩:=o4
  have hw:IntKind.i64.wrap ((done.length:Int)+1)=(done.length:Int)+1:=bE (by omega) (by omega)
  have n0:¬0=h.n:=by omega
  have n1:¬1=h.n:=by omega
  have n3:¬3=h.n:=by omega
  have n4:¬i4=h.n:=by omega
  have m0:¬h.n=0:=by omega
  have m1:¬h.n=1:=by omega
  have i0:¬0=i4:=by omega
  have i1:¬1=i4:=by omega
  have i3:¬3=i4:=by omega
  have j0:¬i4=0:=by omega
  have j1:¬i4=1:=by omega
  have Ji:∀i,bY 7 (.sl i 7 0 n) (.int .i64 (done.length:Int))=some (.ptr i 7 done.length 0):=fun i=>by simp[bY,asI,aZ]
  have mP:(List.map aN (done++e::rest)++sp)[done.length]?=some (aN e):=by
   rw[List.getElem?_append_left (by simp),List.getElem?_map,List.getElem?_append_right (Nat.le_refl _)];simp
  have hpe:=hp e (by simp)
  have hCv:=c6 (.int .i64 me) (eL false 1 cF aL) (eL false 4 aJ adv) (eL false 2 eID seen) (eL false 3 cB own) true (done++e::rest) tc td e.pred (by omega) hpe (fun x hx=>Nat.le_trans (hp x hx).len (by decide))
  have r4:∀o,resolve true (h.push o) 199 (.sl i4 7 0 n)=some (eL true 7 aN (done++e::rest)):=fun o=>by
   have:=(o4'.toR.push (o:=o)).resolve (n:=199) true (fun y _=>(fW y).1) (by decide)
   rw[List.length_map,hL]at this
   exact this
  simp only[aN]at mP
  have hstep:∀F o,fM ⟨tc,td⟩ done (e::rest) mO=fM ⟨tc,td⟩ (done++[e]) rest mO→F 4=.ptr 0 6 0 0→F 5=.ptr 1 2 0 0→F 8=.ptr 3 6 0 0→F 57=.int .i64 n→F 58=.int .i64 ((done.length:Int)+1)→F 13=f 13 →
    ∃ i5 f' h',run D 104 (.block 0::.seq Cs::S) (.loop Gw) F (h.push o)=run D 104 S Cs f' h'∧f' 4=.ptr 0 6 0 0∧f' 8=.ptr 3 6 0 0 ∧
   h'.get 0=some (.arr 37 6 [.agg [.int .i64 me,eL false 1 cF aL,eL false 4 aJ adv,eL false 2 eID seen,.sl i5 7 0 n,eL false 3 cB own]] (some 1))∧h'.get 3=some zb ∧
   dL 4 h' i5 70 7 ((fM ⟨tc,td⟩ done (e::rest) mO).1.map aN)∧OwnR 4 h' (f' 13) 70 7 ((fM ⟨tc,td⟩ done (e::rest) mO).2.map aN)∧(fM ⟨tc,td⟩ done (e::rest) mO).1.length=n∧h'.lim=0∧4≤h'.n∧WF h':=by
   intro F o ht a4 a5 a8 a57 a58 a9
   rw[ht]
   refine ih (done++[e]) mO i4 F _ (by simp at hn ⊢;omega) GH (by simp;omega) (by simpa using hp) a4 a5 a8 a57 (by rw[a58];simp) ?_ ?_ ?_ ?_ ?_ ?_ aO (by show 4≤h.n+1;omega) wf.push
   ·rw[dC,if_neg n0];exact g0
   ·rw[dC,if_neg n1];exact g1
   ·rw[dC,if_neg n3];exact g3
   ·have:=o4'.push (o:=o)
    simpa using this
   ·rw[a9];exact o9.push
   ·rw[a9];exact na
  rw[aC Gw.eq_1]
  by_cases ht:e.tree=⟨tc,td⟩
  ·have vP:e.tree.aW=tc:=by rw[ht]
   have Ge:e.tree.seq=td:=by rw[ht]
   cases vM:e.up with
   | true =>
    have Cn:fM ⟨tc,td⟩ done (e::rest) mO=fM ⟨tc,td⟩ (done++[e]) rest mO:=by simp[fM,vM]
    simp[h4,h5,NU,TJ,aZ,Ji,g4,mP,aN,aO,n0,n1,n4,m0,m1,g0,g1,vP,Ge,vM,hw]
    generalize hF:upd _ 58 _=F
    exact hstep F _ Cn (by rw[←hF];simp[h4]) (by rw[←hF];simp[h5]) (by rw[←hF];simp[h8]) (by rw[←hF];simp[NU]) (by rw[←hF];simp) (by rw[←hF];simp)
   | false =>
    cases hC:bV (done++e::rest) ⟨tc,td⟩ e.pred with
    | true =>
     rw[hC]at hCv
     have Cn:fM ⟨tc,td⟩ done (e::rest) mO=fM ⟨tc,td⟩ (done++[e]) rest mO:=by simp only[fM];rw[if_neg];rw[hC];simp
     simp[h4,h5,NU,TJ,aZ,Ji,g4,mP,aN,aO,n0,n1,n4,m0,m1,g0,g1,vP,Ge,vM,hw,-nV,r4,FA,hCv]
     generalize hF:upd _ 58 _=F
     exact hstep F _ Cn (by rw[←hF];simp[h4]) (by rw[←hF];simp[h5]) (by rw[←hF];simp[h8]) (by rw[←hF];simp[NU]) (by rw[←hF];simp) (by rw[←hF];simp)
    | false =>
     rw[hC]at hCv
     have hyes:fM ⟨tc,td⟩ done (e::rest) mO=fM ⟨tc,td⟩ (done++[{e with up:=true}]) rest (mO++[{e with up:=true}]):=by simp only[fM];rw[if_pos ⟨ht,vM,hC⟩]
     have n41:¬i4=h.n+1:=by omega
     have hele:Sj 7 7 0 n (some (.arr 70 7 (List.map aN done++DV.agg [.int .i64 tc,.int .i64 td,.int .i64 e.sub.aW,.int .i64 e.sub.seq,bQ e.pred,.int .i64 e.cJ,.bool false]::(List.map aN rest++sp)) cap))=some (List.map aN (done++e::rest)):=by
      have hl:(List.map aN (done++e::rest)).length=n:=by simpa using hL
      have Je:List.map aN done++DV.agg [.int .i64 tc,.int .i64 td,.int .i64 e.sub.aW,.int .i64 e.sub.seq,bQ e.pred,.int .i64 e.cJ,.bool false]::(List.map aN rest++sp)=List.map aN (done++e::rest)++sp:=by simp[aN,vP,Ge,vM]
      rw[Je,wV,if_pos ⟨rfl,rfl,by simp at hl ⊢;omega⟩,List.drop_zero,List.take_left' hl]
     simp[h4,h5,NU,TJ,aZ,Ji,g4,mP,aN,aO,n0,n1,n4,n41,m0,m1,i0,i1,i3,j0,j1,g0,g1,vP,Ge,vM,hw,-nV,r4,FA,hCv,hl4,eO,wf,turn,-wV,hele]
     generalize hA:aU _ _ _ _ _ _=A
     obtain⟨v5,K1,rfl,o5,x5,_,_⟩:=Cj (lo:=h.n+1) (xs:=[]) (.arr (h.n+1) [] (some 0) rfl (by simp) (by simp[aO]) (Nat.le_refl _)) (by simp[wf]) (by simp) (by simp[aO]) hA (by simp;simp at hL;omega) (by decide)
     clear hA
     have hlow5:∀k,k<h.n→K1.get k=h.get k:=fun k hk=>by
      rw[x5.get k (by omega)]
      have a1:¬k=h.n+1:=by omega
      have a2:¬k=h.n:=by omega
      simp[a1,a2]
     have hn5:=x5.le
     have wf5:=x5.wf
     have lim5:K1.lim=0:=by rw[x5.lim];simp[aO]
     have o9k:OwnR 4 K1 (f 13) 70 7 (mO.map aN):=o9.ext ⟨by omega,by rw[lim5,aO],hlow5,wf5⟩
     cases o5 with
     | nil hv hx=>simp at hx
     | arr i5 sp5 cap5 hv hg5 hl5 hi5 =>
      have na5:Cl (f 13) i5:=JX o9 (by omega)
      have hid5:=cI hg5
      subst hv
      have b0:=(hlow5 0 (by omega)).trans g0
      have b1:=(hlow5 1 (by omega)).trans g1
      have b3:=(hlow5 3 (by omega)).trans g3
      have hln5:(([]:List DV)++(List.map aN done++DV.agg [.int .i64 tc,.int .i64 td,.int .i64 e.sub.aW,.int .i64 e.sub.seq,bQ e.pred,.int .i64 e.cJ,.bool false]::List.map aN rest)).length=n:=by simp;simpa using hL
      rw[hln5]
      rw[List.nil_append]at hg5
      have k50:¬i5=0:=by omega
      have k05:¬0=i5:=by omega
      have l05:0<K1.n:=by omega
      have hli5:K1.lim≤i5:=hl5
      have hel5:(List.map aN done++DV.agg [.int .i64 tc,.int .i64 td,.int .i64 e.sub.aW,.int .i64 e.sub.seq,bQ e.pred,.int .i64 e.cJ,.bool false]::List.map aN rest++sp5)[done.length]?=some (DV.agg [.int .i64 tc,.int .i64 td,.int .i64 e.sub.aW,.int .i64 e.sub.seq,bQ e.pred,.int .i64 e.cJ,.bool false]):=by
       rw[List.append_assoc,List.getElem?_append_right (by simp)];simp
      simp[h4,TJ,b0,lim5,wf5,l05,Ji,hg5,k50,k05,hid5,hli5,hel5,turn]
      generalize hA:aU _ _ _ _ _ _=A
      obtain⟨v',h',rfl,o9',x9,fr9,na9⟩:=Cj ((V1 (V1 o9k wf5 l05 (Fx o9k (by decide))) wf5.set hid5 na5).push) (by simp[wf5]) (by simp;omega) (by simp[lim5]) hA (by simp;omega) (by decide)
      clear hA
      have y0:=fr9 0 (by simp) (Fx o9k (by decide))
      have y1:=fr9 1 (by simp;omega) (Fx o9k (by decide))
      have y3:=fr9 3 (by simp;omega) (Fx o9k (by decide))
      have y4:=fr9 i5 (by simp;omega) na5
      have ny:=na9 i5 (by simp;omega) na5
      have yl:=x9.lim
      have yw:=x9.wf
      have yn:=x9.le
      have e0:¬0=K1.n:=by omega
      have e1:¬1=K1.n:=by omega
      have e3:¬3=K1.n:=by omega
      have e5:¬i5=K1.n:=by omega
      have d1:¬1=i5:=by omega
      have d3:¬3=i5:=by omega
      simp[wf5,hid5,l05,e0,e1,e3,e5,k50,k05,d1,d3,b0,b1,b3,lim5]at y0 y1 y3 y4 yl
      simp[TJ,hw]
      generalize hF:upd _ 58 _=F
      rw[hyes]
      refine ih (done++[{e with up:=true}]) (mO++[{e with up:=true}]) i5 F h' (by simp at hn ⊢;omega) GH (by simp;omega) ?_ ?_ ?_ ?_ ?_ ?_ y0 y1 y3 ⟨⟨sp5,cap5,?_⟩,?_,by omega⟩ ?_ ?_ yl yn yw
      ·intro x hx
       simp only[List.append_assoc,List.singleton_append,List.mem_append,List.mem_cons]at hx
       rcases hx with hx|rfl|hx
       ·exact hp x (by simp[hx])
       ·exact hpe
       ·exact hp x (by simp[hx])
      ·rw[←hF];simp[h4]
      ·rw[←hF];simp[h5]
      ·rw[←hF];simp[h8]
      ·rw[←hF];simp[NU]
      ·rw[←hF];simp
      ·rw[y4];simp[aN,vP,Ge]
      ·rw[yl];exact Nat.zero_le _
      ·rw[←hF];simp;simpa[aN,vP,Ge]using o9'
      ·rw[←hF];simp;exact ny
  ·have Jm:=En ht
   simp only at Jm
   have Cn:fM ⟨tc,td⟩ done (e::rest) mO=fM ⟨tc,td⟩ (done++[e]) rest mO:=by simp[fM,ht]
   simp[h4,h5,NU,TJ,aZ,Ji,g4,mP,aN,aO,n0,n1,n4,m0,m1,g0,g1,Jm,hw]
   generalize hF:upd _ 58 _=F
   exact hstep F _ Cn (by rw[←hF];simp[h4]) (by rw[←hF];simp[h5]) (by rw[←hF];simp[h8]) (by rw[←hF];simp[NU]) (by rw[←hF];simp) (by rw[←hF];simp)
end Go.Dm.Tc
/-
What the reference's functions compute,part 9: an entry taken out.
-/
namespace Go.Dm.Tc
set_option maxHeartbeats 1600000 in
theorem s199(b:aF)(tc td sc sd cJ:Int)(hs:jF b)(hq:∀e∈b.entries,cZ e.pred)(re:jR b.entries) :
  pcF D Ph [aI .none b,.agg [.int .i64 tc,.int .i64 td],.agg [.int .i64 sc,.int .i64 sd],.int .i64 cJ]=some (.tup [aI .none (dK b ⟨tc,td⟩ ⟨sc,sd⟩ cJ).1,eL false 7 aN (dK b ⟨tc,td⟩ ⟨sc,sd⟩ cJ).2.1,.bool (dK b ⟨tc,td⟩ ⟨sc,sd⟩ cJ).2.2]):=by
 obtain⟨me,aL,adv,seen,ent,own⟩:=b
 obtain⟨z1,z2,z3,z4,z5⟩:=hs
 simp only at z1 z2 z3 z4 z5 re hq
 obtain⟨R,hR⟩:∃ R,R=DV.tup [aI .none (dK ⟨me,aL,adv,seen,ent,own⟩ ⟨tc,td⟩ ⟨sc,sd⟩ cJ).1,eL false 7 aN (dK ⟨me,aL,adv,seen,ent,own⟩ ⟨tc,td⟩ ⟨sc,sd⟩ cJ).2.1,.bool (dK ⟨me,aL,adv,seen,ent,own⟩ ⟨tc,td⟩ ⟨sc,sd⟩ cJ).2.2]:=⟨_,rfl⟩
 rw[←hR]
 have mP:ent.length≤1000000:=by omega
 have hEn:=c7 (.int .i64 me) (eL false 1 cF aL) (eL false 4 aJ adv) (eL false 2 eID seen) (eL false 3 cB own) false ent tc td sc sd mP
 have EF:=tK (isE ⟨tc,td⟩ ⟨sc,sd⟩) ent
 unfold pcF
 rw[aP _ _ _ _ (by simp[Ph])]
 cases Nl:ent.find? (isE ⟨tc,td⟩ ⟨sc,sd⟩)with
 | none =>
  rw[Nl]at EF
  simp only at EF
  rw[EF]at hEn
  have KZ:dK ⟨me,aL,adv,seen,ent,own⟩ ⟨tc,td⟩ ⟨sc,sd⟩ cJ=(⟨me,aL,adv,seen,ent,own⟩,[],false):=by simp[dK,Nl]
  simp[Ph,aI,dZ.none,Kd,hEn,eM,turn,aT]
  simp[hR,KZ,aI,dZ.none,oO]
 | some e =>
  rw[Nl]at EF
  simp only at EF
  obtain⟨i,hi,hh2⟩:=EF
  rw[hi]at hEn
  have zX:¬(i:Int)<0:=by omega
  have Xp:i<ent.length:=by
   by_cases h:i<ent.length
   ·exact h
   ·rw[List.getElem?_eq_none (by omega)]at hh2;cases hh2
  have hw:IntKind.i64.wrap ((i:Int)+1)=(i:Int)+1:=bE (by omega) (by omega)
  have N7:i≤ent.length:=Nat.le_of_lt Xp
  by_cases rQ:e.cJ=cJ
  ·have Es:=LZ re hh2 (List.find?_some Nl)
   obtain⟨fl,NR⟩:∃ fl,(ent.filter fun x=>!isE ⟨tc,td⟩ ⟨sc,sd⟩ x)=fl:=⟨_,rfl⟩
   rw[NR]at Es
   simp[Ph,aI,dZ.none,Kd,hEn,zX,eM,hh2,aN,eq_true rQ,N7,hw,turn]
   generalize hA:aU _ _ _ _ _ _=A
   obtain⟨i1,K1,rfl,o1,x1,y1,j1⟩:=(dL.fresh (lo:=4) (ety:=70) (sz:=7) (xs:=[]) (cap:=some 0) (by simp) (by simp)).append (n:=0) rfl (by simp) (by simp) (by simp) hA (by simp;omega) (by decide)
   clear hA
   have a0:=x1.get 0 (by decide)
   have a1:=x1.get 1 (by decide)
   have a3:=x1.get 3 (by decide)
   have q1:=x1.lim
   have w1:=x1.wf
   have n1:=x1.le
   have u1:=o1.lo
   have m0:¬0=i1:=by omega
   have m1:¬i1=0:=by omega
   have m2:¬i1=1:=by omega
   have m3:¬1=i1:=by omega
   simp at a0 a1 a3 q1 o1
   simp[a0,a1,a3,q1,m0,m1,m2,m3,N7,hw,Xp,Nat.succ_le_of_lt Xp]
   generalize hA:aU _ _ _ _ _ _=A
   obtain⟨i2,K2,rfl,o2,x2,y2,j2⟩:=o1.append (by simp[N7]) w1 n1 (by omega) hA (by simp;omega) (by decide)
   clear hA
   have b0:=x2.get 0 (by decide)
   have b1:=x2.get 1 (by decide)
   have b3:=x2.get 3 (by decide)
   have q2:=x2.lim
   have w2:=x2.wf
   have n2:=x2.le
   have u2:=o2.lo
   rw[a0]at b0
   rw[a1]at b1
   rw[a3]at b3
   rw[q1]at q2
   have l2:0<K2.n:=by omega
   have l23:3<K2.n:=by omega
   have cM:(List.take i (List.map aN ent)++List.drop (i+1) (List.map aN ent))=fl.map aN:=by rw[←Es];simp
   rw[cM]at o2
   have hlw:fl.length=i+(ent.length-(i+1)):=by rw[←Es];simp[Nat.min_eq_left N7]
   have eN:min i ent.length+(ent.length-(i+1))=fl.length:=by rw[hlw,Nat.min_eq_left N7]
   have hfln:fl.length≤100000:=by rw[←NR];exact Nat.le_trans (List.length_filter_le ..) z4
   have hflp:∀x∈fl,cZ x.pred:=fun x hx=>hq x (by rw[←NR]at hx;exact(List.mem_filter.1 hx).1)
   have hmn2:i+(ent.length-(i+1))=fl.length:=hlw.symm
   have r4:=fun o o'=>((o2.toR.bU (o:=o) w2 (by decide) l2).bU (o:=o') w2.set (by decide) l23).resolve (n:=198) false (fun y _=>(fW y).1) (by decide)
   simp only[List.length_map]at r4
   cases vM:e.up with
   | false =>
    have KZ:dK ⟨me,aL,adv,seen,ent,own⟩ ⟨tc,td⟩ ⟨sc,sd⟩ cJ=(⟨me,aL,adv,seen,fl,own⟩,[],false):=by simp[dK,Nl,rQ,vM,NR]
    simp[b0,b3,q2,w2,l2,l23,vM,eN,hmn2,Nat.min_eq_left N7,-nV,r4,turn,aT]
    simp[hR,KZ,aI,dZ.none,oO]
   | true =>
    have KZ:dK ⟨me,aL,adv,seen,ent,own⟩ ⟨tc,td⟩ ⟨sc,sd⟩ cJ=(⟨me,aL,adv,seen,(fM ⟨tc,td⟩ [] fl []).1,own⟩,(fM ⟨tc,td⟩ [] fl []).2,true):=by simp[dK,Nl,rQ,vM,NR]
    simp[b0,b3,q2,w2,l2,l23,vM,eN,hmn2,Nat.min_eq_left N7,turn]
    generalize hF:upd _ 58 _=F
    have j2:¬i2=0:=by omega
    have o3:dL 4 (K2.set 0 (.arr 37 6 [.agg [.int .i64 me,eL false 1 cF aL,eL false 4 aJ adv,eL false 2 eID seen,.sl i2 7 0 fl.length,eL false 3 cB own]] (some 1))) i2 70 7 (fl.map aN):=o2.bU w2 (by decide) l2
    obtain⟨i5,f1,K4,k1,k2,k3,c0,c3,o5,o9,hln4,q4,n4,w4⟩:=l199 [] me aL adv seen own tc td fl.length (.arr 37 6 [.agg [.int .i64 0,.nsl,.nsl,.nsl,.nsl,.nsl]] (some 1)) fl [] [] i2 F _ (by simp) hfln (by simp) (by simpa using hflp) (by rw[←hF];simp) (by rw[←hF];simp) (by rw[←hF];simp) (by rw[←hF];simp) (by rw[←hF];simp)
     (by simp[w2,l2]) (by simp[w2,l2,b1]) (by simp[w2,l2,b3]) o3 (by rw[←hF];simp;exact .nil rfl rfl) (by rw[←hF];simp;intro a b c e;cases e) q2 (by exact n2) w2.set
    rw[k1]
    clear hF k1
    have y0:0<K4.n:=by omega
    have y3:3<K4.n:=by omega
    have s5:=fun o'=>(o5.toR.bU (o:=o') w4 (by decide) y3).resolve (n:=198) false (fun y _=>(fW y).1) (by decide)
    have s9:=fun o'=>(o9.bU (o:=o') w4 (by decide) y3).resolve (n:=199) false (fun y _=>(fW y).1) (by decide)
    simp only[List.length_map,hln4]at s5
    simp[Cs,k2,k3,c0,c3,q4,w4,y3,turn,-nV,s5,s9,aT]
    simp[hR,KZ,aI,dZ.none]
  ·have KZ:dK ⟨me,aL,adv,seen,ent,own⟩ ⟨tc,td⟩ ⟨sc,sd⟩ cJ=(⟨me,aL,adv,seen,ent,own⟩,[],false):=by simp[dK,Nl,rQ]
   simp[Ph,aI,dZ.none,Kd,hEn,zX,eM,hh2,aN,rQ,turn,aT]
   simp[hR,KZ,aI,dZ.none,oO,aN]
end Go.Dm.Tc
/-
What every broker keeps that calls Fg: plain laws (learned,forgotten,added,taken out).
-/
namespace Go.Dm.Tc
theorem LL{α:Type}(key:α→ID){l:List α}(h:dB (l.map key))(x:ID)(a:α):l.find? (fun b=>decide (key b=x))=some a↔a∈l∧key a=x:=by
 constructor
 ·intro hf
  exact⟨List.mem_of_find?_eq_some hf,by simpa using List.find?_some hf⟩
 ·rintro⟨hm,hk⟩
  cases hf:l.find? (fun b=>decide (key b=x))with
  | none=>exact absurd hk (by have:=List.find?_eq_none.1 hf a hm;simpa using this)
  | some b =>
   have hb:=List.mem_of_find?_eq_some hf
   have hkb:key b=x:=by simpa using List.find?_some hf
   have:b=a:=by
    by_cases e:b=a
    ·exact e
    ·exfalso
     unfold dB at h
     rw[List.pairwise_map]at h
     obtain⟨i,hi,rfl⟩:=List.mem_iff_getElem.1 hb
     obtain⟨j,hj,rfl⟩:=List.mem_iff_getElem.1 hm
     rcases Nat.lt_trichotomy i j with aZ|he|aZ
     ·have:=List.pairwise_iff_getElem.1 h i j hi hj aZ
      rw[hkb,hk,hM]at this;omega
     ·subst he;exact e rfl
     ·have:=List.pairwise_iff_getElem.1 h j i hj hi aZ
      rw[hkb,hk,hM]at this;omega
   rw[this]
theorem yW{α:Type}(key:α→ID){l:List α}(x:ID):l.find? (fun b=>decide (key b=x))=none↔∀a∈l,key a≠x:=by
 rw[List.find?_eq_none]
 exact⟨fun h a ha=>by simpa using h a ha,fun h a ha=>by simpa using h a ha⟩
theorem lG{b:aF}(h:dB (b.aG.map (·.id))){x:ID}{a:bD}:jK b x=some a↔a∈b.aG∧a.id=x:=LL (fun a:bD=>a.id) h x a
theorem Ks{b:aF}{x:ID}:jK b x=none↔∀a∈b.aG,a.id≠x:=yW (fun a:bD=>a.id) x
theorem fC(b:aF)(x:ID):dP b x=((jK b x).getD vK).bP:=rfl
theorem iU{l:List bB}{t:ID}{p:bN}:bV l t p=true↔∃ e∈l,e.tree=t∧e.up=true∧jO e.pred p=true:=by
 unfold bV ofT
 rw[List.any_eq_true]
 constructor
 ·rintro⟨e,he,h⟩
  have:=List.mem_filter.1 he
  rw[Bool.and_eq_true]at h
  exact⟨e,this.1,by simpa using this.2,h.1,h.2⟩
 ·rintro⟨e,he,h1,h2,h3⟩
  exact⟨e,List.mem_filter.2 ⟨he,by simpa using h1⟩,by rw[h2,h3];rfl⟩
theorem tG{e x:bB}{l:List bB}:x∈zW e l↔x=e∨x∈l:=by
 unfold zW
 rw[List.mem_append,List.mem_cons]
 constructor
 ·rintro(h|h|h)
  ·exact .inr (List.mem_of_mem_take h)
  ·exact .inl h
  ·exact .inr (List.mem_of_mem_drop h)
 ·rintro(h|h)
  ·exact .inr (.inl h)
  ·rw[←List.take_append_drop (aV (gU e.tree e.sub) l) l,List.mem_append]at h
   exact h.elim .inl fun h=>.inr (.inr h)
theorem Xf(e:bB)(l:List bB):(zW e l).length=l.length+1:=by
 unfold zW
 rw[List.length_append,List.length_cons,List.length_take,List.length_drop]
 have:=eI (gU e.tree e.sub) l
 omega
theorem OY{t s:ID}{a:bB}(h1:¬gU t s a<0)(h2:¬(a.tree=t∧a.sub=s))(e:bB)(he:e.tree=t)(he2:e.sub=s):gU a.tree a.sub e<0:=by
 rw[uC,kS,kS]at *
 rw[he,he2]
 rw[ID.ext',ID.ext']at h2
 rw[ID.ext']at *
 omega
theorem Xe{e:bB}{l:List bB}(h:jR l)(hn:∀x∈l,isE e.tree e.sub x=false):jR (zW e l):=by
 unfold jR zW
 rw[List.pairwise_append,List.pairwise_cons]
 generalize hk:aV (gU e.tree e.sub) l=k
 have jU:∀b∈l.take k,gU e.tree e.sub b<0:=by
  intro b hb
  obtain⟨i,hi,rfl⟩:=List.mem_iff_getElem.1 hb
  rw[List.getElem_take]
  rw[List.length_take]at hi
  have:=List.not_of_lt_findIdx (p:=fun x=>!decide (gU e.tree e.sub x<0)) (xs:=l) (i:=i) (by unfold aV at hk;omega)
  simpa using this
 have wM:∀b∈l.drop k,gU b.tree b.sub e<0:=by
  intro b hb
  obtain⟨i,hi,rfl⟩:=List.mem_iff_getElem.1 hb
  rw[List.length_drop]at hi
  rw[List.getElem_drop]
  have Zt:k<l.length:=by omega
  have h1:¬gU e.tree e.sub l[k]<0:=by
   have:=List.findIdx_getElem (p:=fun x=>!decide (gU e.tree e.sub x<0)) (xs:=l) (w:=by unfold aV at hk;omega)
   have pP:List.findIdx (fun x=>!decide (gU e.tree e.sub x<0)) l=k:=hk
   simp only[pP]at this
   simpa using this
  have h2:¬gU e.tree e.sub l[k+i]<0:=fun hc=>h1 (l7 h _ _ k (k+i) Zt (by omega) (by omega) hc)
  refine OY h2 ?_ e rfl rfl
  have:=hn l[k+i] (List.getElem_mem _)
  simpa[isE]using this
 refine⟨h.sublist (List.take_sublist ..),⟨fun b hb=>wM b hb,h.sublist (List.drop_sublist ..)⟩,?_⟩
 intro x hx y hy
 rcases List.mem_cons.1 hy with rfl|hy
 ·exact jU x hx
 ·exact Ht (jU x hx) (by have:=wM y hy;omega)
structure cC(b:aF):Prop where
 aL:cH (fun x y=>decide (x<y)) b.aL=true
 loc:∀x∈b.aL,0≤x
 ra:dB (b.aG.map (·.id))
 rs:dB b.seen
 ro:dB (b.bJ.map (·.id))
 re:jR b.entries
 sub:∀a∈b.aG,a.id∈b.seen
 par:∀a∈b.aG,jJ b a.bP=true
 pa:∀a∈b.aG,cZ a.pred
 po:∀o∈b.bJ,cZ o.pred
 ent:∀e∈b.entries,eU b e=true
 pe:∀e∈b.entries,cZ e.pred
 tight:tX b=true
structure SzK(b:aF)(n:Nat):Prop where
 aL:b.aL.length≤1000
 adv:b.aG.length≤n
 seen:b.seen.length≤n
 own:b.bJ.length≤n
 ent:b.entries.length≤n*n
theorem SzK.sized{b:aF}{n:Nat}(h:SzK b n)(hn:n≤300):jF b:=by
 have:=Nat.mul_le_mul hn hn
 obtain⟨h1,h2,h3,h4,h5⟩:=h
 exact⟨by omega,by omega,by omega,by omega,by omega⟩
theorem SzK.mono{b:aF}{n m:Nat}(h:SzK b n)(hn:n≤m):SzK b m:=by
 have:=Nat.mul_le_mul hn hn
 obtain⟨h1,h2,h3,h4,h5⟩:=h
 exact⟨h1,by omega,by omega,by omega,by omega⟩
theorem cC.asked{b:aF}(h:cC b):Al b:=⟨fun e he=>(h.pe e he).unlike,fun e he=>Nat.le_trans (h.pe e he).len (by decide)⟩
theorem cC.sizedN{b:aF}(h:cC b):Dx b:=⟨fun a ha=>(h.pa a ha).names,fun a ha=>(h.pe a ha).names,fun a ha=>(h.po a ha).names⟩
theorem cC.right{b:aF}(h:cC b):mS b=true:=by
 unfold mS lJ
 rw[h.aL,qM (key:=fun a:bD=>a.id) h.ra,qM (key:=fun a:fQ=>a.id) h.ro,Ng h.re,show cH (fun x y=>iD x y) b.seen=true from qM (key:=fun a:ID=>a) (by simpa using h.rs)]
 have h1:(b.aG.any fun a=>!mT b a)=false:=by
  rw[List.any_eq_false]
  intro a ha
  simp[mT,h.sub a ha,h.par a ha,(h.pa a ha).right]
 have h2:(b.entries.any fun e=>!eU b e)=false:=by
  rw[List.any_eq_false]
  intro e he
  simp[h.ent e he]
 have h3:(b.bJ.any fun o=>!kO o.pred)=false:=by
  rw[List.any_eq_false]
  intro o ho
  simp[(h.po o ho).right]
 rw[h1,h2,h3]
 rfl
theorem gQ{b:aF}{e:bB}:eU b e=true↔∃ a,jK b e.tree=some a∧jJ b e.cJ=true∧(e.cJ=a.bP→a.bP=-1)∧(e.up=true→a.bP≠-1)∧kO e.pred=true:=by
 unfold eU jK
 cases b.aG.find? (fun a=>a.id=e.tree)with
 | none=>simp
 | some a =>
  simp only[Option.some.injEq,exists_eq_left',Bool.and_eq_true,Bool.or_eq_true,Bool.not_eq_true',Bool.and_eq_false_iff,decide_eq_true_eq,decide_eq_false_iff_not]
  constructor
  ·rintro⟨⟨⟨h1,h2⟩,h3⟩,h4⟩
   exact⟨h1,fun q=>h2.resolve_left (fun hn=>hn q),fun q=>h3.resolve_left (by rw[q];decide),h4⟩
  ·rintro⟨h1,h2,h3,h4⟩
   refine⟨⟨⟨h1,?_⟩,?_⟩,h4⟩
   ·by_cases q:e.cJ=a.bP
    ·exact .inr (h2 q)
    ·exact .inl q
   ·cases q:e.up with
    | false=>exact .inl rfl
    | true=>exact .inr (h3 q)
theorem iV{b:aF}:tX b=true↔∀e∈b.entries,e.up=true∨dP b e.tree=-1∨bV b.entries e.tree e.pred=true:=by
 unfold tX
 rw[List.all_eq_true]
 simp only[Cr,Bool.or_eq_true,decide_eq_true_eq,or_assoc]
theorem uP{b b':aF}(h:b'.aL=b.aL)(n:Int):jJ b' n=jJ b n:=by unfold jJ;rw[h]
theorem oY{b b':aF}{e:bB}(h:b'.aL=b.aL)(ha:jK b' e.tree=jK b e.tree):eU b' e=eU b e:=by
 rw[Bool.eq_iff_iff,gQ,gQ,ha]
 simp only[uP h]
theorem cC.start{me:Int}{aL:List Int}(hn:cH (fun x y=>decide (x<y)) aL=true)(hl:∀x∈aL,0≤x):cC ⟨me,aL,[],[],[],[]⟩ :=
 ⟨hn,hl,.nil,.nil,.nil,.nil,fun a h=>(by cases h),fun a h=>(by cases h),fun a h=>(by cases h),fun a h=>(by cases h),fun a h=>(by cases h),fun a h=>(by cases h),rfl⟩
theorem SzK.start{me:Int}{aL:List Int}(hn:aL.length≤1000):SzK ⟨me,aL,[],[],[],[]⟩ 0:=⟨hn,Nat.le_refl _,Nat.le_refl _,Nat.le_refl _,Nat.le_refl _⟩
theorem Zn{b:aF}(h:cC b)(a:bD)(hn:a.id ∉ b.seen)(x:ID):jK (bX b a).1 x=if a.id=x then some a else jK b x:=by
 have Ry:∀c∈b.aG,c.id≠a.id:=fun c hc e=>hn (by rw[←e];exact h.sub c hc)
 have hr:dB ((bX b a).1.aG.map (·.id)):=by
  unfold bX;rw[if_neg hn]
  exact oE (fun a:bD=>a.id) a h.ra Ry
 have hm:∀c,c∈(bX b a).1.aG↔c=a∨c∈b.aG:=by
  intro c
  unfold bX;rw[if_neg hn]
  exact pA (fun a:bD=>a.id) a b.aG c
 by_cases e:a.id=x
 ·rw[if_pos e,lG hr,hm];exact⟨.inl rfl,e⟩
 ·rw[if_neg e]
  cases hq:jK b x with
  | none =>
   rw[Ks]at hq ⊢
   intro c hc
   rcases(hm c).1 hc with rfl|hc
   ·exact e
   ·exact hq c hc
  | some c =>
   rw[lG h.ra]at hq
   rw[lG hr,hm]
   exact⟨.inr hq.1,hq.2⟩
theorem cC.learn{b:aF}(h:cC b){a:bD}(hp:jJ b a.bP=true)(hr:cZ a.pred):cC (bX b a).1:=by
 by_cases hn:a.id∈b.seen
 ·unfold bX;rw[if_pos hn];exact h
 ·have ho:=Zn h a hn
  have hE:(bX b a).1.entries=b.entries:=by unfold bX;rw[if_neg hn]
  have hN:(bX b a).1.aL=b.aL:=by unfold bX;rw[if_neg hn]
  have hO:(bX b a).1.bJ=b.bJ:=by unfold bX;rw[if_neg hn]
  have hA:(bX b a).1.aG=iK (fun a=>a.id) a b.aG:=by unfold bX;rw[if_neg hn]
  have hS:(bX b a).1.seen=iK (fun x=>x) a.id b.seen:=by unfold bX;rw[if_neg hn]
  have hother:∀e∈b.entries,jK (bX b a).1 e.tree=jK b e.tree:=by
   intro e he
   rw[ho,if_neg]
   intro hc
   obtain⟨c,vP,_⟩:=gQ.1 (h.ent e he)
   rw[lG h.ra]at vP
   exact hn (by rw[hc,←vP.2];exact h.sub c vP.1)
  refine⟨by rw[hN];exact h.aL,by rw[hN];exact h.loc,?_,?_,by rw[hO];exact h.ro,by rw[hE];exact h.re,?_,?_,?_,by rw[hO];exact h.po,?_,by rw[hE];exact h.pe,?_⟩
  ·rw[hA];exact oE (fun a:bD=>a.id) a h.ra fun c hc e=>hn (by rw[←e];exact h.sub c hc)
  ·rw[hS]
   have:=oE (fun x:ID=>x) a.id (l:=b.seen) (by simpa using h.rs) (fun c hc e=>hn (by rw[←e];exact hc))
   simpa using this
  ·intro c hc
   rw[hA,pA]at hc
   rw[hS,pA]
   rcases hc with rfl|hc
   ·exact .inl rfl
   ·exact .inr (h.sub c hc)
  ·intro c hc
   rw[uP hN]
   rw[hA,pA]at hc
   rcases hc with rfl|hc
   ·exact hp
   ·exact h.par c hc
  ·intro c hc
   rw[hA,pA]at hc
   rcases hc with rfl|hc
   ·exact hr
   ·exact h.pa c hc
  ·intro e he
   rw[hE]at he
   rw[oY hN (hother e he)];exact h.ent e he
  ·rw[iV,hE]
   intro e he
   rw[fC,hother e he,←fC]
   exact iV.1 h.tight e he
theorem SzK.learn{b:aF}{n:Nat}(h:SzK b n)(a:bD):SzK (bX b a).1 (n+1):=by
 have h':=h.mono (Nat.le_succ n)
 unfold bX
 split
 ·exact h'
 ·obtain⟨h1,h2,h3,h4,h5⟩:=h'
  exact⟨h1,by simp only[Ga];have:=h.adv;omega,by simp only[Ga];have:=h.seen;omega,h4,h5⟩
theorem Ns{b:aF}{x:ID}{q:Int}(h:(dH b x q).2=false):(dH b x q).1=b:=by
 unfold dH at *
 split at h
 ·rfl
 ·split at h
  ·cases h
  ·rename_i h2;rw[if_neg h2]
theorem Jp{b:aF}{x:ID}{q:Int}(h:(dH b x q).2=true):(dH b x q).1={b with aG:=dE (fun a=>a.id) x b.aG,entries:=dE (fun e=>e.tree) x b.entries}∧∃ a,jK b x=some a∧a.bP=q:=by
 unfold dH at *
 split at h
 ·cases h
 ·rename_i a ha
  split at h
  ·rename_i h2;rw[if_pos h2];exact⟨rfl,a,ha,h2⟩
  ·cases h
theorem fK{α:Type}{key:α→ID}{x:ID}{l:List α}{a:α}:a∈dE key x l↔a∈l∧key a≠x:=by
 unfold dE;rw[List.mem_filter];simp
theorem Ds{l:List bB}{x t:ID}{p:bN}(h:t≠x):bV (dE (fun e=>e.tree) x l) t p=bV l t p:=by
 rw[Bool.eq_iff_iff,iU,iU]
 constructor
 ·rintro⟨e,he,h2⟩
  exact⟨e,(fK.1 he).1,h2⟩
 ·rintro⟨e,he,h2⟩
  exact⟨e,fK.2 ⟨he,by rw[h2.1];exact h⟩,h2⟩
theorem zD{b b':aF}(h:dB (b.aG.map (·.id))){x t:ID}(hb:b'.aG=dE (fun a=>a.id) x b.aG)(ht:t≠x):jK b' t=jK b t:=by
 have hr:dB (b'.aG.map (·.id)):=by rw[hb];exact mQ _ x h
 cases hq:jK b t with
 | none =>
  rw[Ks]at hq ⊢
  intro a ha
  rw[hb]at ha
  exact hq a (fK.1 ha).1
 | some a =>
  rw[lG h]at hq
  rw[lG hr,hb,fK]
  exact⟨⟨hq.1,by rw[hq.2];exact ht⟩,hq.2⟩
theorem cC.forget{b:aF}(h:cC b)(x:ID)(q:Int):cC (dH b x q).1:=by
 cases hc:(dH b x q).2 with
 | false=>rw[Ns hc];exact h
 | true =>
  obtain⟨e1,_⟩:=Jp hc
  generalize (dH b x q).1=b' at *
  have hA:b'.aG=dE (fun a=>a.id) x b.aG:=by rw[e1]
  have hE:b'.entries=dE (fun e=>e.tree) x b.entries:=by rw[e1]
  have hN:b'.aL=b.aL:=by rw[e1]
  have hS:b'.seen=b.seen:=by rw[e1]
  have hO:b'.bJ=b.bJ:=by rw[e1]
  refine⟨by rw[hN];exact h.aL,by rw[hN];exact h.loc,by rw[hA];exact mQ _ x h.ra,by rw[hS];exact h.rs,by rw[hO];exact h.ro,by rw[hE];exact h.re.sublist (List.filter_sublist ..),?_,?_,?_,by rw[hO];exact h.po,?_,?_,?_⟩
  ·intro a ha;rw[hA]at ha;rw[hS];exact h.sub a (fK.1 ha).1
  ·intro a ha;rw[hA]at ha;rw[uP hN];exact h.par a (fK.1 ha).1
  ·intro a ha;rw[hA]at ha;exact h.pa a (fK.1 ha).1
  ·intro e he
   rw[hE]at he
   have:=fK.1 he
   rw[oY hN (zD h.ra hA this.2)]
   exact h.ent e this.1
  ·intro e he;rw[hE]at he;exact h.pe e (fK.1 he).1
  ·rw[iV]
   intro e he
   rw[hE]at he
   have:=fK.1 he
   rw[hE,Ds this.2,fC,zD h.ra hA this.2,←fC]
   exact iV.1 h.tight e this.1
theorem SzK.forget{b:aF}{n:Nat}(h:SzK b n)(x:ID)(q:Int):SzK (dH b x q).1 n:=by
 cases hc:(dH b x q).2 with
 | false=>rw[Ns hc];exact h
 | true =>
  rw[(Jp hc).1]
  obtain⟨h1,h2,h3,h4,h5⟩:=h
  exact⟨h1,Nat.le_trans (vU ..) h2,h3,h4,Nat.le_trans (vU ..) h5⟩
theorem zU{b:aF}{e:bB}:nZ b e=true↔∃ a,jK b e.tree=some a∧(∀x∈b.entries,isE e.tree e.sub x=false)∧(e.cJ=a.bP→a.bP=-1):=by
 unfold nZ jK
 cases b.aG.find? (fun a=>a.id=e.tree)with
 | none=>simp
 | some a =>
  simp only[Option.some.injEq,exists_eq_left',Bool.and_eq_true,Bool.not_eq_true',Bool.and_eq_false_iff,List.any_eq_false,Bool.not_eq_true,decide_eq_false_iff_not,Bool.not_eq_false',decide_eq_true_eq]
  refine and_congr Iff.rfl ⟨fun h q=>h.resolve_left (fun hn=>hn q),fun h=>?_⟩
  by_cases q:e.cJ=a.bP
  ·exact .inr (h q)
  ·exact .inl q
theorem Cf{l l':List bB}{t:ID}{p:bN}(h:∀e∈l,e∈l')(hc:bV l t p=true):bV l' t p=true:=by
 rw[iU]at *
 obtain⟨e,he,h2⟩:=hc
 exact⟨e,h e he,h2⟩
theorem cC.add{b:aF}(h:cC b){e:bB}(hl:jJ b e.cJ=true)(hp:cZ e.pred):cC (fZ b e).1:=by
 by_cases hm:nZ b e=true
 ·obtain⟨a,ha,Cn,Xq⟩:=zU.1 hm
  unfold fZ
  rw[if_pos hm]
  have Lv:dP b e.tree=a.bP:=by rw[fC,ha];rfl
  refine⟨h.aL,h.loc,h.ra,h.rs,h.ro,?_,h.sub,h.par,h.pa,h.po,?_,?_,?_⟩
  ·exact Xe (e:={e with up:=yF b e}) h.re Cn
  ·intro x hx
   rw[tG]at hx
   have hs:∀y,eU {b with entries:=zW {e with up:=yF b e} b.entries} y=eU b y:=fun y=>oY rfl rfl
   rw[hs]
   rcases hx with rfl|hx
   ·rw[gQ]
    refine⟨a,ha,hl,Xq,?_,hp.right⟩
    intro hu N1
    simp only[yF,Lv,N1]at hu
    simp at hu
   ·exact h.ent x hx
  ·intro x hx
   rw[tG]at hx
   rcases hx with rfl|hx
   ·exact hp
   ·exact h.pe x hx
  ·rw[iV]
   intro x hx
   have hs:∀y,dP {b with entries:=zW {e with up:=yF b e} b.entries} y=dP b y:=fun y=>rfl
   rw[hs]
   have Bl:=hx
   rw[tG]at hx
   rcases hx with rfl|hx
   ·by_cases N1:a.bP=-1
    ·exact .inr (.inl (by rw[Lv,N1]))
    ·cases LG:bV b.entries e.tree e.pred with
     | true=>exact .inr (.inr (Cf (fun y hy=>tG.2 (.inr hy)) LG))
     | false=>left;simp[yF,Lv,N1,LG]
   ·rcases iV.1 h.tight x hx with h1|h1|h1
    ·exact .inl h1
    ·exact .inr (.inl h1)
    ·exact .inr (.inr (Cf (fun y hy=>tG.2 (.inr hy)) h1))
 ·unfold fZ
  rw[if_neg hm];exact h
inductive fP(t:ID):List bB→List bB→Prop where
 | nil:fP t [] []
 | keep (e:bB) {l l':List bB} (h:fP t l l'):fP t (e::l) (e::l')
 | up (e:bB) {l l':List bB} (ht:e.tree=t) (hu:e.up=false) (h:fP t l l'):fP t (e::l) ({e with up:=true}::l')
theorem fP.refl(t:ID):∀l,fP t l l
 | []=>.nil
 | e::l=>.keep e (fP.refl t l)
theorem fP.append{t:ID}{a a' b b':List bB}(h:fP t a a')(k:fP t b b'):fP t (a++b) (a'++b'):=by
 induction h with
 | nil=>exact k
 | keep e _ ih=>exact .keep e ih
 | up e ht hu _ ih=>exact .up e ht hu ih
theorem fP.len{t:ID}{a a':List bB}(h:fP t a a'):a'.length=a.length:=by
 induction h with
 | nil=>rfl
 | keep e _ ih=>simp[ih]
 | up e ht hu _ ih=>simp[ih]
theorem fP.mem{t:ID}{a a':List bB}(h:fP t a a'){x:bB}(hx:x∈a'):x∈a∨∃ e∈a,e.tree=t∧e.up=false∧x={e with up:=true}:=by
 induction h with
 | nil=>cases hx
 | keep e _ ih =>
  rcases List.mem_cons.1 hx with rfl|hx
  ·exact .inl (List.mem_cons_self ..)
  ·rcases ih hx with h|⟨y,hy,h⟩
   ·exact .inl (List.mem_cons_of_mem _ h)
   ·exact .inr ⟨y,List.mem_cons_of_mem _ hy,h⟩
 | up e ht hu _ ih =>
  rcases List.mem_cons.1 hx with rfl|hx
  ·exact .inr ⟨e,List.mem_cons_self ..,ht,hu,rfl⟩
  ·rcases ih hx with h|⟨y,hy,h⟩
   ·exact .inl (List.mem_cons_of_mem _ h)
   ·exact .inr ⟨y,List.mem_cons_of_mem _ hy,h⟩
theorem fP.of_mem{t:ID}{a a':List bB}(h:fP t a a'){x:bB}(hx:x∈a):x∈a'∨(x.tree=t∧x.up=false∧{x with up:=true}∈a'):=by
 induction h with
 | nil=>cases hx
 | keep e _ ih =>
  rcases List.mem_cons.1 hx with rfl|hx
  ·exact .inl (List.mem_cons_self ..)
  ·rcases ih hx with h|⟨h1,h2,h3⟩
   ·exact .inl (List.mem_cons_of_mem _ h)
   ·exact .inr ⟨h1,h2,List.mem_cons_of_mem _ h3⟩
 | up e ht hu _ ih =>
  rcases List.mem_cons.1 hx with rfl|hx
  ·exact .inr ⟨ht,hu,List.mem_cons_self ..⟩
  ·rcases ih hx with h|⟨h1,h2,h3⟩
   ·exact .inl (List.mem_cons_of_mem _ h)
   ·exact .inr ⟨h1,h2,List.mem_cons_of_mem _ h3⟩
theorem fP.rising{t:ID}{a a':List bB}(h:fP t a a')(hr:jR a):jR a':=by
 induction h with
 | nil=>exact hr
 | keep e h ih =>
  unfold jR at *
  rw[List.pairwise_cons]at *
  refine⟨fun x hx=>?_,ih hr.2⟩
  rcases h.mem hx with hx|⟨y,hy,_,_,rfl⟩
  ·exact hr.1 x hx
  ·exact hr.1 y hy
 | up e ht hu h ih =>
  unfold jR at *
  rw[List.pairwise_cons]at *
  refine⟨fun x hx=>?_,ih hr.2⟩
  have:∀t s,gU t s {e with up:=true}=gU t s e:=fun t s=>rfl
  rw[this]
  rcases h.mem hx with hx|⟨y,hy,_,_,rfl⟩
  ·exact hr.1 x hx
  ·exact hr.1 y hy
theorem fP.covered{t:ID}{a a':List bB}(h:fP t a a'){t':ID}{p:bN}(hc:bV a t' p=true):bV a' t' p=true:=by
 rw[iU]at *
 obtain⟨e,he,h1,h2,h3⟩:=hc
 rcases h.of_mem he with hx|⟨_,hx,_⟩
 ·exact⟨e,hx,h1,h2,h3⟩
 ·rw[h2]at hx;cases hx
theorem Om(t:ID):∀(rest done mO:List bB),∃ r',(fM t done rest mO).1=done++r'∧fP t rest r'∧(∀x∈r',x.tree=t→x.up=true∨bV (done++r') t x.pred=true) ∧
  ∃ u',(fM t done rest mO).2=mO++u'∧∀x∈u',x∈r'∧x.tree=t∧x.up=true∧{x with up:=false}∈rest∧bV (done++rest) t x.pred=false:=by
 intro rest
 induction rest with
 | nil=>intro done mO;exact⟨[],by simp[fM],.nil,(fun x hx=>by cases hx),[],by simp[fM],(fun x hx=>by cases hx)⟩
 | cons e rest ih =>
  intro done mO
  unfold fM
  by_cases hc:e.tree=t∧e.up=false∧bV (done++e::rest) t e.pred=false
  ·rw[if_pos hc]
   obtain⟨r',h1,h2,h3,u',h4,h5⟩:=ih (done++[{e with up:=true}]) (mO++[{e with up:=true}])
   refine⟨{e with up:=true}::r',by rw[h1];simp,.up e hc.1 hc.2.1 h2,?_,{e with up:=true}::u',by rw[h4];simp,?_⟩
   ·intro x hx ht
    rcases List.mem_cons.1 hx with rfl|hx
    ·exact .inl rfl
    ·have:=h3 x hx ht
     simpa using this
   ·intro x hx
    rcases List.mem_cons.1 hx with rfl|hx
    ·have he:({{e with up:=true} with up:=false}:bB)=e:=by obtain⟨a1,a2,a3,a4,a5⟩:=e;simp only at hc;rw[hc.2.1]
     exact⟨List.mem_cons_self ..,hc.1,rfl,by rw[he];exact List.mem_cons_self ..,hc.2.2⟩
    ·obtain⟨k1,k2,k3,k4,k5⟩:=h5 x hx
     refine⟨List.mem_cons_of_mem _ k1,k2,k3,List.mem_cons_of_mem _ k4,?_⟩
     have hR:fP t (done++e::rest) (done++[{e with up:=true}]++rest):=by
      rw[List.append_assoc]
      exact(fP.refl t done).append (.up e hc.1 hc.2.1 (.refl t rest))
     cases hq:bV (done++e::rest) t x.pred with
     | false=>rfl
     | true=>rw[hR.covered hq]at k5;cases k5
  ·rw[if_neg hc]
   obtain⟨r',h1,h2,h3,u',h4,h5⟩:=ih (done++[e]) mO
   refine⟨e::r',by rw[h1];simp,.keep e h2,?_,u',h4,?_⟩
   ·intro x hx ht
    rcases List.mem_cons.1 hx with rfl|hx
    ·cases hu:x.up with
     | true=>exact .inl rfl
     | false =>
      cases hq:bV (done++x::rest) t x.pred with
      | true=>exact .inr (((fP.refl t done).append (.keep x h2)).covered hq)
      | false=>exact absurd ⟨ht,hu,hq⟩ hc
    ·have:=h3 x hx ht
     simpa using this
   ·intro x hx
    obtain⟨k1,k2,k3,k4,k5⟩:=h5 x hx
    exact⟨List.mem_cons_of_mem _ k1,k2,k3,List.mem_cons_of_mem _ k4,by simpa using k5⟩
theorem qS{b:aF}(h:cC b)(t s:ID)(q:Int) :
  ((dK b t s q)=(b,[],false)∧∀e∈b.entries,isE t s e=true→e.cJ≠q) ∨
  (∃ e∈b.entries,isE t s e=true∧e.cJ=q∧e.up=false∧dK b t s q=({b with entries:=b.entries.filter fun x=>!isE t s x},[],false)) ∨
  (∃ e∈b.entries,isE t s e=true∧e.cJ=q∧e.up=true∧∃ r' u',dK b t s q=({b with entries:=r'},u',true)∧fP t (b.entries.filter fun x=>!isE t s x) r' ∧
   (∀x∈r',x.tree=t→x.up=true∨bV r' t x.pred=true)∧∀x∈u',x∈r'∧x.tree=t∧x.up=true∧{x with up:=false}∈b.entries.filter (fun x=>!isE t s x)∧bV (b.entries.filter fun x=>!isE t s x) t x.pred=false):=by
 unfold dK
 cases hf:b.entries.find? (isE t s)with
 | none =>
  left
  refine⟨rfl,fun e he hi=>?_⟩
  have:=List.find?_eq_none.1 hf e he
  exact absurd hi this
 | some e =>
  have he:=List.mem_of_find?_eq_some hf
  have hi:=List.find?_some hf
  by_cases hq:e.cJ=q
  ·simp only[if_pos hq]
   cases hu:e.up with
   | false =>
    right;left
    exact⟨e,he,hi,hq,hu,by simp⟩
   | true =>
    right;right
    obtain⟨r',h1,h2,h3,u',h4,h5⟩:=Om t (b.entries.filter fun x=>!isE t s x) [] []
    refine⟨e,he,hi,hq,hu,r',u',by simp[h1,h4],h2,by simpa using h3,by simpa using h5⟩
  ·left
   refine⟨by simp only[if_neg hq],fun x hx Xo=>?_⟩
   have hkey:x=e:=by
    by_cases hxe:x=e
    ·exact hxe
    ·exfalso
     have k1:x.tree=t∧x.sub=s:=by simpa[isE]using Xo
     have k2:e.tree=t∧e.sub=s:=by simpa[isE]using hi
     obtain⟨i,Fn,rfl⟩:=List.mem_iff_getElem.1 hx
     obtain⟨j,RF,rfl⟩:=List.mem_iff_getElem.1 he
     rcases Nat.lt_trichotomy i j with aZ|he|aZ
     ·have:=List.pairwise_iff_getElem.1 h.re i j Fn RF aZ
      rw[k2.1,k2.2,uD.2 k1]at this;omega
     ·subst he;exact hxe rfl
     ·have:=List.pairwise_iff_getElem.1 h.re j i RF Fn aZ
      rw[k1.1,k1.2,uD.2 k2]at this;omega
   rw[hkey];exact hq
theorem cC.entries{b b':aF}(h:cC b)(hb:b'={b with entries:=b'.entries})(hre:jR b'.entries)(he:∀e∈b'.entries,∃ d∈b.entries,e.tree=d.tree∧e.pred=d.pred∧e.cJ=d.cJ∧(e.up=true→dP b e.tree≠-1))
  (ht:∀e∈b'.entries,e.up=true∨dP b e.tree=-1∨bV b'.entries e.tree e.pred=true):cC b':=by
 have hA:b'.aG=b.aG:=by rw[hb]
 have hN:b'.aL=b.aL:=by rw[hb]
 have hS:b'.seen=b.seen:=by rw[hb]
 have hO:b'.bJ=b.bJ:=by rw[hb]
 have ho:∀x,jK b' x=jK b x:=fun x=>by unfold jK;rw[hA]
 refine⟨by rw[hN];exact h.aL,by rw[hN];exact h.loc,by rw[hA];exact h.ra,by rw[hS];exact h.rs,by rw[hO];exact h.ro,hre,by rw[hA,hS];exact h.sub,?_,by rw[hA];exact h.pa,by rw[hO];exact h.po,?_,?_,?_⟩
 ·intro a ha;rw[uP hN];rw[hA]at ha;exact h.par a ha
 ·intro e hm
  obtain⟨d,hd,k1,k2,k3,k4⟩:=he e hm
  rw[oY hN (ho _),gQ]
  obtain⟨a,a1,a2,a3,a4,a5⟩:=gQ.1 (h.ent d hd)
  refine⟨a,by rw[k1];exact a1,by rw[k3];exact a2,by rw[k3];exact a3,fun hu=>?_,by rw[k2];exact a5⟩
  have:=k4 hu
  rw[fC,k1,a1]at this
  exact this
 ·intro e hm
  obtain⟨d,hd,_,k2,_⟩:=he e hm
  rw[k2];exact h.pe d hd
 ·rw[iV]
  intro e hm
  have:dP b' e.tree=dP b e.tree:=by rw[fC,ho,←fC]
  rw[this]
  exact ht e hm
theorem cC.up{b:aF}(h:cC b){e:bB}(he:e∈b.entries)(hu:e.up=true):dP b e.tree≠-1:=by
 obtain⟨a,a1,_,_,a4,_⟩:=gQ.1 (h.ent e he)
 rw[fC,a1]
 exact a4 hu
theorem cC.take{b:aF}(h:cC b)(t s:ID)(q:Int):cC (dK b t s q).1:=by
 have Fk:∀x∈b.entries.filter (fun x=>!isE t s x),x∈b.entries:=fun x hx=>(List.mem_filter.1 hx).1
 have hrf:jR (b.entries.filter fun x=>!isE t s x):=h.re.sublist (List.filter_sublist ..)
 rcases qS h t s q with⟨hc,_⟩|⟨e,he,hi,_,hu,hc⟩|⟨e,he,hi,_,hu,r',u',hc,hR,htt,_⟩
 ·rw[hc];exact h
 ·rw[hc]
  refine h.entries rfl hrf ?_ ?_
  ·intro x hx
   exact⟨x,Fk x hx,rfl,rfl,rfl,fun hux=>h.up (Fk x hx) hux⟩
  ·intro x hx
   rcases iV.1 h.tight x (Fk x hx)with h1|h1|h1
   ·exact .inl h1
   ·exact .inr (.inl h1)
   ·refine .inr (.inr ?_)
    rw[iU]at *
    obtain⟨d,hd,k1,k2,k3⟩:=h1
    refine⟨d,List.mem_filter.2 ⟨hd,?_⟩,k1,k2,k3⟩
    cases eO:isE t s d with
    | false=>rfl
    | true =>
     exfalso
     have q1:d.tree=t∧d.sub=s:=by simpa[isE]using eO
     have q2:e.tree=t∧e.sub=s:=by simpa[isE]using hi
     have:d=e:=by
      by_cases hde:d=e
      ·exact hde
      ·exfalso
       obtain⟨i,Fn,rfl⟩:=List.mem_iff_getElem.1 hd
       obtain⟨j,RF,rfl⟩:=List.mem_iff_getElem.1 he
       rcases Nat.lt_trichotomy i j with aZ|Th|aZ
       ·have:=List.pairwise_iff_getElem.1 h.re i j Fn RF aZ
        rw[q2.1,q2.2,uD.2 q1]at this;omega
       ·subst Th;exact hde rfl
       ·have:=List.pairwise_iff_getElem.1 h.re j i RF Fn aZ
        rw[q1.1,q1.2,uD.2 q2]at this;omega
     rw[this,hu]at k2;cases k2
 ·have hpt:dP b t≠-1:=by
   have:=h.up he hu
   have q2:e.tree=t∧e.sub=s:=by simpa[isE]using hi
   rw[q2.1]at this;exact this
  rw[hc]
  refine h.entries rfl (hR.rising hrf) ?_ ?_
  ·intro x hx
   rcases hR.mem hx with hx|⟨y,hy,h1,h2,rfl⟩
   ·exact⟨x,Fk x hx,rfl,rfl,rfl,fun hux=>h.up (Fk x hx) hux⟩
   ·exact⟨y,Fk y hy,rfl,rfl,rfl,fun _=>by rw[h1];exact hpt⟩
  ·intro x hx
   by_cases hxt:x.tree=t
   ·rcases htt x hx hxt with k|k
    ·exact .inl k
    ·exact .inr (.inr (by rw[hxt];exact k))
   ·have Bl:x∈b.entries.filter fun x=>!isE t s x:=by
     rcases hR.mem hx with hx|⟨y,hy,h1,h2,rfl⟩
     ·exact hx
     ·exact absurd h1 hxt
    rcases iV.1 h.tight x (Fk x Bl)with h1|h1|h1
    ·exact .inl h1
    ·exact .inr (.inl h1)
    ·refine .inr (.inr (hR.covered ?_))
     rw[iU]at *
     obtain⟨d,hd,k1,k2,k3⟩:=h1
     refine⟨d,List.mem_filter.2 ⟨hd,?_⟩,k1,k2,k3⟩
     have:¬(d.tree=t∧d.sub=s):=fun hh=>hxt (by rw[←k1];exact hh.1)
     simp[isE,this]
theorem Tv{b:aF}(h:cC b)(t s:ID)(q:Int):(dK b t s q).1.entries.length≤b.entries.length:=by
 rcases qS h t s q with⟨hc,_⟩|⟨e,_,_,_,_,hc⟩|⟨e,_,_,_,_,r',u',hc,hR,_⟩
 ·rw[hc];exact Nat.le_refl _
 ·rw[hc];exact List.length_filter_le ..
 ·rw[hc]
  show r'.length≤_
  rw[hR.len];exact List.length_filter_le ..
theorem Mt(b:aF)(t s:ID)(q:Int):(dK b t s q).1={b with entries:=(dK b t s q).1.entries}:=by
 unfold dK
 split
 ·rfl
 ·split
  ·split<;>rfl
  ·rfl
theorem NA(b:aF)(e:bB):(fZ b e).1={b with entries:=(fZ b e).1.entries}:=by
 unfold fZ
 split<;>rfl
theorem SQ(b:aF)(e:bB):(fZ b e).1.entries.length≤b.entries.length+1:=by
 unfold fZ
 split
 ·simp only[Xf];exact Nat.le_refl _
 ·exact Nat.le_succ _
theorem SzK.take{b:aF}{n:Nat}(h:SzK b n)(hi:cC b)(t s:ID)(q:Int):SzK (dK b t s q).1 n:=by
 have h1:=Tv hi t s q
 rw[Mt]at h1 ⊢
 obtain⟨a1,a2,a3,a4,a5⟩:=h
 exact⟨a1,a2,a3,a4,Nat.le_trans h1 a5⟩
theorem SzK.add{b:aF}{n:Nat}(h:SzK b n)(e:bB):SzK (fZ b e).1 (n+1):=by
 have h1:=SQ b e
 rw[NA]at h1 ⊢
 obtain⟨a1,a2,a3,a4,a5⟩:=h
 have:(n+1)*(n+1)=n*n+n+n+1:=by rw[Nat.add_mul,Nat.mul_add];omega
 exact⟨a1,Nat.le_succ_of_le a2,Nat.le_succ_of_le a3,Nat.le_succ_of_le a4,by simp only at h1 ⊢;omega⟩
end Go.Dm.Tc
/-
Brokers as one datum: what the machine's steps do to it;what functions answer of a broker that calls Fg.
-/
namespace Go.Dm.Tc
theorem YJ(t:dZ)(b:aF):DV.agg (gR t b)=aI t b:=_root_.id rfl
theorem EZ(sz:Nat)(t:dZ)(b:aF):aK sz (aI t b)=gR t b:=_root_.id rfl
theorem YF(t:dZ)(b:aF):(gR t b).length=6:=_root_.id rfl
theorem SM(t:dZ)(b:aF):(gR t b).take 6=gR t b:=_root_.id rfl
theorem bC_0(t:dZ)(b:aF):(gR t b)[0]?=some (.int .i64 b.me):=_root_.id rfl
theorem bC_1(t:dZ)(b:aF):(gR t b)[1]?=some (eL t.aL 1 cF b.aL):=_root_.id rfl
theorem bC_2(t:dZ)(b:aF):(gR t b)[2]?=some (eL t.aG 4 aJ b.aG):=_root_.id rfl
theorem bC_3(t:dZ)(b:aF):(gR t b)[3]?=some (eL t.seen 2 eID b.seen):=_root_.id rfl
theorem bC_4(t:dZ)(b:aF):(gR t b)[4]?=some (eL t.entries 7 aN b.entries):=_root_.id rfl
theorem bC_5(t:dZ)(b:aF):(gR t b)[5]?=some (eL t.bJ 3 cB b.bJ):=_root_.id rfl
theorem z9(t:dZ)(b:aF)(h:0<(gR t b).length):(gR t b)[0]=.int .i64 b.me:=_root_.id rfl
theorem z8(t:dZ)(b:aF)(h:1<(gR t b).length):(gR t b)[1]=eL t.aL 1 cF b.aL:=_root_.id rfl
theorem z7(t:dZ)(b:aF)(h:2<(gR t b).length):(gR t b)[2]=eL t.aG 4 aJ b.aG:=_root_.id rfl
theorem z6(t:dZ)(b:aF)(h:3<(gR t b).length):(gR t b)[3]=eL t.seen 2 eID b.seen:=_root_.id rfl
theorem x8(t:dZ)(b:aF)(h:4<(gR t b).length):(gR t b)[4]=eL t.entries 7 aN b.entries:=_root_.id rfl
theorem x7(t:dZ)(b:aF)(h:5<(gR t b).length):(gR t b)[5]=eL t.bJ 3 cB b.bJ:=_root_.id rfl
theorem Ul(t:dZ)(b:aF):bF 6 (aI t b)=true:=_root_.id rfl
theorem VW(tg:Bool)(h:aA)(n:Nat)(t:dZ)(b:aF):resolve tg h (n+2) (aI t b)=some (aI t b):=by
 simp[aI]
theorem YM(n:Nat)(b:aF):bH (n+24) (aI .none b)=true:=by
 simp[aI,dZ.none]
theorem XJ(h:aA)(t:dZ)(b:aF):iR h (aI t b)=some (aI t b,h):=by
 simp[aI,Sf,Df,Iy,O3,X3,Af,Ae,Dw]
theorem EQ(off:Nat)(n:Option Nat)(t:dZ)(b:aF):Jw off n (aI t b)=dG n (gR t b) off:=_root_.id rfl
attribute [simp] YJ EZ YF SM bC_0 bC_1 bC_2 bC_3 bC_4 bC_5 z9 z8 z7 z6 x8 x7 Ul VW YM XJ EQ X6 O4 Xx X5 Sf Iy Df O3 X4 LJ X3 X2 LK Af Ae Dw
section
variable {b:aF} (t:dZ)
theorem V8(h:cC b)(z:jF b)(c d:Int)(p:bN)(q:Int):pcF D Pz [aI .none b,.agg [.int .i64 c,.int .i64 d,bQ p,.int .i64 q]]=some (.tup [aI .none (bX b ⟨⟨c,d⟩,p,q⟩).1,.bool (bX b ⟨⟨c,d⟩,p,q⟩).2]):=s117 b c d p q z h.ra h.rs
theorem Xb(h:cC b)(z:jF b)(c d q:Int):pcF D Kx [aI .none b,.agg [.int .i64 c,.int .i64 d],.int .i64 q]=some (.tup [aI .none (dH b ⟨c,d⟩ q).1,.bool (dH b ⟨c,d⟩ q).2]):=s201 b c d q z h.ra
theorem V9(h:cC b)(z:jF b)(tc td sc sd:Int){p:bN}(hp:cZ p)(q:Int)(u:Bool):pcF D zI [aI .none b,.agg [.int .i64 tc,.int .i64 td,.int .i64 sc,.int .i64 sd,bQ p,.int .i64 q,.bool u]]=some (.tup [aI .none (fZ b ⟨⟨tc,td⟩,⟨sc,sd⟩,p,q,u⟩).1,.bool (fZ b ⟨⟨tc,td⟩,⟨sc,sd⟩,p,q,u⟩).2]) :=
 s114 b ⟨⟨tc,td⟩,⟨sc,sd⟩,p,q,u⟩ z h.asked hp
theorem WS(h:cC b)(z:jF b)(tc td sc sd q:Int):pcF D Ph [aI .none b,.agg [.int .i64 tc,.int .i64 td],.agg [.int .i64 sc,.int .i64 sd],.int .i64 q]=some (.tup [aI .none (dK b ⟨tc,td⟩ ⟨sc,sd⟩ q).1,eL false 7 aN (dK b ⟨tc,td⟩ ⟨sc,sd⟩ q).2.1,.bool (dK b ⟨tc,td⟩ ⟨sc,sd⟩ q).2.2]) :=
 s199 b tc td sc sd q z h.pe h.re
end
end Go.Dm.Tc
/-
What the laws' arguments are: numbers of which predicates,steps,brokers are Fg.
-/
namespace Go.Dm.Tc
structure PK where
 has:List Int
 vals:List Int
def ePK(p:PK):DV:=.agg [eL false 1 cF p.has,eL false 1 cF p.vals]
def PK.pred(p:PK):bN:=dV p.has p.vals
structure nR where
 kind:Int
 cJ:Int
 tree:Int
 aW:Int
 seq:Int
 has:List Int
 vals:List Int
def fX(s:nR):DV:=.agg [.int .i64 s.kind,.int .i64 s.cJ,.int .i64 s.tree,.int .i64 s.aW,.int .i64 s.seq,eL false 1 cF s.has,eL false 1 cF s.vals]
structure Y8 where
 aL:Int
 steps:List nR
def Dq(b:Y8):DV:=.agg [.int .i64 b.aL,eL false 7 fX b.steps]
end Go.Dm.Tc
/-
More plain laws of brokers: one entry for a tree and a number;what covers itself;what comes of an entry taken out,of one added.
-/
namespace Go.Dm.Tc
theorem Z6(t:ID):∀(rest done mO:List bB),(fM t done rest mO).2.length≤mO.length+rest.length:=by
 intro rest
 induction rest with
 | nil=>intro done mO;simp[fM]
 | cons e rest ih =>
  intro done mO
  unfold fM
  split
  ·have:=ih (done++[{e with up:=true}]) (mO++[{e with up:=true}]);simp at this ⊢;omega
  ·have:=ih (done++[e]) mO;simp at this ⊢;omega
theorem Tu(b:aF)(t s:ID)(q:Int):(dK b t s q).2.1.length≤b.entries.length:=by
 unfold dK
 split
 ·simp
 ·split
  ·split
   ·refine Nat.le_trans (Z6 _ _ _ _) ?_
    simp only[List.length_nil,Nat.zero_add]
    exact List.length_filter_le ..
   ·simp
  ·simp
end Go.Dm.Tc
/-
Numbers sorted,pairs too: the plain law,and the hook.
-/
namespace Go.Dm.Tc
def atL(L:List Int)(i:Nat):Int:=L.getD i 0
theorem Q8{L:List Int}{i:Nat}(h:i<L.length):atL L i=L[i]:=by simp[atL,h]
structure RowS(id:Nat)(sp:List DV)(cap:Option Nat)(h h':aA)(L:List Int):Prop where
 get:h'.get id=some (.arr 3 1 (L.map cF++sp) cap)
 n:h'.n=h.n
 lim:h'.lim=h.lim
 wf:WF h'
 oth:∀k,k≠id→h'.get k=h.get k
end Go.Dm.Tc
/-
AdvertsOrder: numbers sorted,and the same ones struck: the walk.
-/
namespace Go.Dm.Tc
def NB(L:List Int):Prop:=L.Pairwise (·<·)
theorem Ms{L:List Int}{p:Nat}(h:p<L.length):L.take (p+1)=L.take p++[atL L p]:=by
 rw[List.take_succ,List.getElem?_eq_getElem h,Q8 h];rfl
structure Zr(L M:List Int)(k p:Nat):Prop where
 len:M.length=L.length
 k1:1≤k
 kp:k<p
 pl:p≤L.length
 tail:∀i,p-1≤i→atL M i=atL L i
 strict:NB (M.take k)
 mem:∀x,x∈M.take k↔x∈L.take p
 last:atL M (k-1)=atL L (p-1)
theorem Zr.start{L:List Int}{k:Nat}(hs:NB (L.take k))(h1:1≤k)(hk:k<L.length)(he:atL L k=atL L (k-1)):Zr L L k (k+1):=by
 refine⟨rfl,h1,by omega,by omega,fun _ _=>rfl,hs,fun x=>?_,by simp[he]⟩
 rw[Ms hk,List.mem_append,List.mem_singleton]
 constructor
 ·exact .inl
 ·rintro(h|h)
  ·exact h
  ·rw[h,he]
   have:k-1<L.length:=by omega
   rw[Q8 this]
   exact List.mem_take_iff_getElem.2 ⟨k-1,by omega,rfl⟩
theorem Zr.same{L M:List Int}{k p:Nat}(h:Zr L M k p)(hp:p<L.length)(he:atL L p=atL L (p-1)):Zr L M k (p+1):=by
 refine⟨h.len,h.k1,by have:=h.kp;omega,by omega,fun i hi=>h.tail i (by omega),h.strict,fun x=>?_,by rw[h.last];simp[he]⟩
 rw[h.mem,Ms hp,List.mem_append,List.mem_singleton]
 constructor
 ·exact .inl
 ·rintro(q|q)
  ·exact q
  ·rw[q,he]
   have hkp:=h.kp
   have:p-1<L.length:=by omega
   rw[Q8 this]
   exact List.mem_take_iff_getElem.2 ⟨p-1,by omega,rfl⟩
end Go.Dm.Tc
/-
What functions compute,part 30: texts compared;the search among constraints;two constraints in one.
-/
namespace Go.Dm.Tc
theorem ST{a b:UInt8}(h1:¬a<b)(h2:¬b<a):a=b:=by
 rw[UInt8.lt_iff_toNat_lt]at h1 h2
 exact UInt8.toNat_inj.1 (by omega)
theorem Gj:∀{a b:List UInt8},Go.Lib.compareBytes a b<0↔Go.Op.bytesLess a b=true
 | [],[]=>by simp[Go.Lib.compareBytes,Go.Op.bytesLess]
 | [],b::bs=>by simp[Go.Lib.compareBytes,Go.Op.bytesLess]
 | a::az,[]=>by simp[Go.Lib.compareBytes,Go.Op.bytesLess]
 | a::az,b::bz=>by
  have ih:=Gj (a:=az) (b:=bz)
  unfold Go.Lib.compareBytes Go.Op.bytesLess
  by_cases h1:a<b
  ·simp[h1]
  ·by_cases h2:b<a
   ·have:a≠b:=fun e=>by subst e;exact h1 h2
    simp[h1,h2,this]
   ·have:=ST h1 h2
    simp[h1,h2,this,ih]
theorem Ss:∀{a b:List UInt8},Go.Lib.compareBytes a b=0↔a=b
 | [],[]=>by simp[Go.Lib.compareBytes]
 | [],b::bs=>by simp[Go.Lib.compareBytes]
 | a::az,[]=>by simp[Go.Lib.compareBytes]
 | a::az,b::bz=>by
  have ih:=Ss (a:=az) (b:=bz)
  unfold Go.Lib.compareBytes
  by_cases h1:a<b
  ·have:a≠b:=fun e=>by subst e;have:=HA (a:=a) (b:=a);simp_all
   simp[h1,this]
  ·by_cases h2:b<a
   ·have:a≠b:=fun e=>by subst e;exact h1 h2
    simp[h1,h2,this]
   ·have:=ST h1 h2
    simp[h1,h2,this,ih]
def hU(s:List UInt8)(c:kM):Int:=Go.Lib.compareBytes c.name s
def mxI(a b:Int):Int:=if a<b then b else a
def mnI(a b:Int):Int:=if b<a then b else a
def nA(a b:kM):Option kM :=
 if a.kind=1 then(if b.kind=1∧mxI a.lo b.lo≤mnI a.hi b.hi then some {a with lo:=mxI a.lo b.lo,hi:=mnI a.hi b.hi} else none)
 else if b.kind=1 then none
 else if a.kind=2 then(if kW b a.text=true then some a else none)
 else if b.kind=2 then(if kW a b.text=true then some b else none)
 else if a.text.length<b.text.length then(if kJ b.text a.text=true then some b else none)
 else(if kJ a.text b.text=true then some a else none)
def pM(k:Int):Prop:=k=1∨k=2∨k=3
end Go.Dm.Tc
/-
What functions compute,part 31: a predicate Fg of constraints.
-/
namespace Go.Dm.Tc
def NE(p:bN):Prop:=(p.map (·.name)).Pairwise fun a b=>Go.Op.bytesLess a b=true
theorem NE.mono{p:bN}(h:NE p)(s:List UInt8):∀i j (hi:i<p.length) (hj:j<p.length),i≤j→hU s p[j]<0→hU s p[i]<0:=by
 intro i j hi hj NP hc
 unfold hU at *
 rw[Gj]at *
 rcases Nat.lt_or_eq_of_le NP with aZ|rfl
 ·have:=List.pairwise_iff_getElem.1 h i j (by simpa using hi) (by simpa using hj) aZ
  simp only[List.getElem_map]at this
  exact Ko this hc
 ·exact hc
theorem QP{α:Type}{cm:α→Int}{xs:List α}{q:Nat}(hq:q<aV cm xs)(hl:q<xs.length):cm xs[q]<0:=by
 have:=List.not_of_lt_findIdx hq
 simpa using this
theorem WO{α:Type}{cm:α→Int}{xs:List α}(hl:aV cm xs<xs.length):¬cm xs[aV cm xs]<0:=by
 intro hc
 have h1:(fun x=>!decide (cm x<0)) (xs[aV cm xs])=true:=List.findIdx_getElem (w:=hl)
 have h2:(!decide (cm xs[aV cm xs]<0))=true:=h1
 rw[decide_eq_true hc]at h2
 cases h2
def M5(out:bN)(c:kM):Option bN :=
 if iN (hU c.name) out=true then(match out[aV (hU c.name) out]? with
  | some x=>(match nA x c with|some b=>some (out.set (aV (hU c.name) out) b)|none=>none)
  | none=>none)
 else if out.length=5 then none else some (out.take (aV (hU c.name) out)++c::out.drop (aV (hU c.name) out))
def Wu:bN→bN→Option bN
 | out,[]=>some out
 | out,c::r=>match M5 out c with
  | some o=>Wu o r
  | none=>none
theorem M2{a b x:kM}(ha:pM a.kind)(hb:pM b.kind)(h:nA a b=some x):pM x.kind:=by
 unfold nA at h
 repeat' split at h
 all_goals first
  | (cases h;done)
  | (cases h;first|exact ha|exact hb)
theorem W6{cm:kM→Int}{out:bN}(h:iN cm out=true):∃ x,out[aV cm out]?=some x∧cm x=0∧aV cm out<out.length:=by
 unfold iN at h
 split at h
 ·rename_i x hx
  exact⟨x,hx,by simpa using h,(List.getElem?_eq_some_iff.1 hx).1⟩
 ·cases h
theorem Nb(t:Bool)(h:aA)(ty:Nat)(k:IntKind)(m:Int):resolve t h 200 (.iface ty (.int k m))=some (.iface ty (.int k m)):=rfl
end Go.Dm.Tc
/-
What functions compute,part 32: pred.Make.
-/
namespace Go.Dm.Tc
end Go.Dm.Tc
/-
What functions compute,part 33: rel.Sample,rel.Joint,rel.Meets.
-/
namespace Go.Dm.Tc
def zT(a b:bN):Bool:=lX (Wu [] (a++b))
theorem G5{c:kM}(h:cX c=true):pM c.kind:=by
 unfold cX at h
 unfold pM
 simp only[Bool.and_eq_true]at h
 have h2:=h.2
 repeat' split at h2
 all_goals first
  | (rename_i e;exact .inl e)
  | (rename_i e;exact .inr (.inr e))
  | (rename_i e;exact .inr (.inl e))
  | (cases h2;done)
theorem Ia:∀{p:bN} {n:Option (List UInt8)},iB n p=true→∀c∈p,cX c=true
 | [],_,_,c,h=>by cases h
 | x::r,n,h,c,hc=>by
  simp only[iB,Bool.and_eq_true]at h
  rcases List.mem_cons.1 hc with rfl|hc
  ·exact h.1.1
  ·exact Ia h.2 c hc
theorem cZ.one{p:bN}(h:cZ p):∀c∈p,cX c=true∧c.name.length≤1000000:=by
 intro c hc
 have h1:=h.right
 unfold kO at h1
 simp only[Bool.and_eq_true]at h1
 exact⟨Ia h1.1 c hc,h.names.2 c hc⟩
end Go.Dm.Tc
/-
What the reference's functions compute,part 9: two constraints in one.
-/
namespace Go.Dm.Tc
theorem VP(nm:List UInt8)(k lo hi:Int)(tx:List UInt8)(s:List UInt8) :
  pcF D Ot [.agg [.str nm,.int .i64 k,.int .i64 lo,.int .i64 hi,.str tx],.agg [.bool true,.int .i64 0,.str s]]=some (.bool (kW ⟨nm,k,lo,hi,tx⟩ s)):=by
 unfold pcF
 rw[aP _ _ _ _ (by simp[Ot])]
 by_cases k1:k=1
 ·subst k1
  simp[Ot,kW]
 ·by_cases k2:k=2
  ·subst k2
   simp[Ot,kW]
  ·by_cases k3:k=3
   ·subst k3
    simp[Ot,kW,RY,PH]
   ·simp[Ot,kW,k1,k2,k3]
def sC(a b:kM):kM :=
 if a.kind=1∧b.kind=1 then {a with lo:=mxI a.lo b.lo,hi:=mnI a.hi b.hi}
 else if a.kind=1∨b.kind=1 then a
 else if a.kind=2 then a
 else if b.kind=2 then b
 else if b.text.length≤a.text.length then a else b
theorem s257(a b:kM)(ha:pM a.kind)(hb:pM b.kind):pcF D yG [bC a,bC b]=some (.tup [bC (sC a b),.bool (lX (nA a b))]):=by
 obtain⟨nm,k,lo,hi,tx⟩:=a
 obtain⟨nm',k',lo',lI,tx'⟩:=b
 simp only[pM]at ha hb
 unfold pcF
 rw[aP _ _ _ _ (by simp[yG])]
 rcases ha with rfl|rfl|rfl
 ·rcases hb with rfl|rfl|rfl
  ·by_cases h:mnI hi lI<mxI lo lo'
   ·have h':¬mxI lo lo'≤mnI hi lI:=by omega
    simp only[mnI,mxI]at h h'
    simp[yG,bC,nA,sC,mnI,mxI,h,h',turn,aT,lX]
   ·have h':mxI lo lo'≤mnI hi lI:=by omega
    simp only[mnI,mxI]at h h'
    simp[yG,bC,nA,sC,mnI,mxI,h,h',turn,aT,lX]
  ·simp[yG,bC,nA,sC,turn,aT,lX]
  ·simp[yG,bC,nA,sC,turn,aT,lX]
 ·rcases hb with rfl|rfl|rfl
  ·simp[yG,bC,nA,sC,turn,aT,lX]
  ·have hh:=VP nm' 2 lo' lI tx' tx
   cases hq:kW ⟨nm',2,lo',lI,tx'⟩ tx<;>rw[hq]at hh<;>simp[yG,bC,nA,sC,turn,aT,lX,XT,hh,hq]
  ·have hh:=VP nm' 3 lo' lI tx' tx
   cases hq:kW ⟨nm',3,lo',lI,tx'⟩ tx<;>rw[hq]at hh<;>simp[yG,bC,nA,sC,turn,aT,lX,XT,hh,hq]
 ·rcases hb with rfl|rfl|rfl
  ·simp[yG,bC,nA,sC,turn,aT,lX]
  ·have hh:=VP nm 3 lo hi tx tx'
   cases hq:kW ⟨nm,3,lo,hi,tx⟩ tx'<;>rw[hq]at hh<;>simp[yG,bC,nA,sC,turn,aT,lX,XT,hh,hq]
  ·by_cases hl:tx.length<tx'.length
   ·have Fl:¬(tx'.length:Int)≤tx.length:=by omega
    have EE:¬tx'.length≤tx.length:=by omega
    cases hq:kJ tx' tx<;>simp[yG,bC,nA,sC,turn,aT,lX,RY,PH,hq,hl,Fl,EE]
   ·have Fl:(tx'.length:Int)≤tx.length:=by omega
    have EE:tx'.length≤tx.length:=by omega
    cases hq:kJ tx tx'<;>simp[yG,bC,nA,sC,turn,aT,lX,RY,PH,hq,hl,Fl,EE]
theorem KT{a b x:kM}(ha:pM a.kind)(hb:pM b.kind)(h:nA a b=some x):sC a b=x:=by
 obtain⟨nm,k,lo,hi,tx⟩:=a
 obtain⟨nm',k',lo',lI,tx'⟩:=b
 simp only[pM]at ha hb
 rcases ha with rfl|rfl|rfl<;>rcases hb with rfl|rfl|rfl<;>simp[nA,sC]at h ⊢
 all_goals first
  | exact h.2
  | (obtain⟨_,h⟩:=h;exact h)
  | (split at h<;>simp at h<;>simp_all<;>omega)
end Go.Dm.Tc
/-
What the reference's functions compute,part 10: a predicate Fg of constraints.
-/
namespace Go.Dm.Tc
def rO(out:bN)(c:kM):Option bN :=
 if iN (hU c.name) out=true then(match out[aV (hU c.name) out]? with
  | some x=>(match nA x c with|some b=>some (out.set (aV (hU c.name) out) b)|none=>none)
  | none=>none)
 else some (out.take (aV (hU c.name) out)++c::out.drop (aV (hU c.name) out))
def jD:bN→bN→Option bN
 | out,[]=>some out
 | out,c::r=>match rO out c with
  | some o=>jD o r
  | none=>none
theorem Xc{out:bN}{c:kM}{o:bN}(h:rO out c=some o):out.length≤o.length∧o.length≤out.length+1:=by
 unfold rO at h
 have:=eI (hU c.name) out
 repeat' split at h
 all_goals first
  | (cases h;done)
  | (cases h;simp only[List.length_set];omega)
  | (cases h;simp only[List.length_append,List.length_cons,List.length_take,List.length_drop];omega)
theorem Ni:∀(l:bN) {out o:bN},jD out l=some o→out.length≤o.length
 | [],out,o,he=>by simp only[jD,Option.some.injEq]at he;subst he;exact Nat.le_refl _
 | c::r,out,o,he=>by
  simp only[jD]at he
  split at he
  ·rename_i o1 h1;exact Nat.le_trans (Xc h1).1 (Ni r he)
  ·cases he
theorem Rr:∀(l:bN) {out:bN},out.length≤5→lX (Wu out l)=(match jD out l with|some o=>decide (o.length≤5)|none=>false)
 | [],out,h=>by simp[Wu,jD,lX,h]
 | c::r,out,h=>by
  simp only[Wu,jD]
  by_cases hh:iN (hU c.name) out=true
  ·have e:M5 out c=rO out c:=by
    unfold M5 rO
    rw[if_pos hh,if_pos hh]
    try rfl
   rw[e]
   cases hi:rO out c with
   | none=>rfl
   | some o =>
    have hl:o.length≤5:=by
     unfold rO at hi
     rw[if_pos hh]at hi
     repeat' split at hi
     all_goals first
      | (cases hi;done)
      | (cases hi;simpa using h)
    exact Rr r hl
  ·by_cases h5:out.length=5
   ·have e1:M5 out c=none:=by simp only[M5,hh,h5];rfl
    rw[e1]
    cases hi:rO out c with
    | none=>rfl
    | some o =>
     have hl:6≤o.length:=by
      unfold rO at hi
      rw[if_neg hh]at hi
      cases hi
      have:=eI (hU c.name) out
      simp only[List.length_append,List.length_cons,List.length_take,List.length_drop]
      omega
     simp only[lX]
     cases hm:jD o r with
     | none=>rfl
     | some p =>
      have:=Ni r hm
      simp only
      rw[decide_eq_false (by omega)]
   ·have e:M5 out c=rO out c:=by simp only[M5,rO,if_neg hh,if_neg h5]
    rw[e]
    cases hi:rO out c with
    | none=>rfl
    | some o=>exact Rr r (by have:=(Xc hi).2;omega)
theorem xY{out:bN}{c:kM}{o:bN}(hk:∀x∈out,pM x.kind)(hc:pM c.kind)(h:rO out c=some o):∀x∈o,pM x.kind:=by
 unfold rO at h
 split at h
 ·rename_i hh
  obtain⟨x,hx,W0,aZ⟩:=W6 hh
  rw[hx]at h
  simp only at h
  split at h
  ·rename_i b hb
   cases h
   intro y hy
   rcases List.mem_or_eq_of_mem_set hy with h1|h1
   ·exact hk y h1
   ·subst h1;exact M2 (hk x (List.mem_of_getElem? hx)) hc hb
  ·cases h
 ·cases h
  intro y hy
  rcases List.mem_append.1 hy with h1|h1
  ·exact hk y (List.mem_of_mem_take h1)
  ·rcases List.mem_cons.1 h1 with rfl|h1
   ·exact hc
   ·exact hk y (List.mem_of_mem_drop h1)
theorem _root_.Go.Dm.OwnR.mapId{lo:Nat}{h:aA}{v:DV}{ety sz:Nat}{xs:List DV}(w:OwnR lo h v ety sz xs):Dm.mapId v=none:=by
 cases w with
 | nil hv _=>subst hv;rfl
 | arr _ _ _ hv=>subst hv;rfl
theorem n195(S:List Fr)(H:aA)(out:bN)(c:kM)(v:DV)(cid:Nat)(cp:Option Nat)(hl:out.length≤1000000)(gc:H.get cid=some (.arr 94 5 [bC c] cp))(ho:OwnR 0 H v 94 5 (out.map bC))(P:Res→Prop) :
  ∀(n j:Nat) (f:dJ),aV (hU c.name) out-j=n→j≤aV (hU c.name) out→f 4=v→f 6=.ptr cid 5 0 0→f 7=.int .i64 j →
  (∀F:dJ,F 7=.int .i64 (aV (hU c.name) out:Nat)→(∀r,r<13→r≠7→F r=f r)→P (run D 78 S vY F H)) →
  P (run D 78 (.block 2::.seq vY::S) (.loop Pm) f H):=by
 intro n
 have cM:=ho.lenV
 simp only[List.length_map]at cM
 simp only[bC]at gc
 have hmv:=ho.mapId
 have k:∀r q:Nat,r<13→13≤q→¬r=q:=fun r q h1 h2=>by omega
 induction n with
 | zero =>
  intro j f hn hj h4 h6 h7 hP
  have fY:aV (hU c.name) out=j:=by omega
  rw[aC Pm.eq_1]
  by_cases aZ:j<out.length
  ·have hnot:Go.Op.bytesLess out[j].name c.name=false:=by
    have:=WO (cm:=hU c.name) (xs:=out) (by omega)
    simp only[fY]at this
    have h2:=mt Gj.2 this
    simpa using h2
   obtain⟨id,sp,cap,hv,hg,_,_,Xo,hx⟩:=ho.index (i:=j) (x:=bC out[j]) (by simp[aZ]) .i64
   simp only[bC]at hx
   simp[h4,h6,h7,cM,aZ,Xo,hg,hx,gc,hnot,hmv,-List.getElem?_map]
   exact hP _ (by simp[h7,fY]) fun r hr dW=>by simp[k r _ hr]
  ·simp[h4,h6,h7,cM,aZ,hmv]
   exact hP _ (by simp[h7,fY]) fun r hr dW=>by simp[k r _ hr]
 | succ n ih =>
  intro j f hn hj h4 h6 h7 hP
  have aZ:j<out.length:=by have:=eI (hU c.name) out;omega
  have hyes:Go.Op.bytesLess out[j].name c.name=true:=Gj.1 (QP (cm:=hU c.name) (by omega) aZ)
  obtain⟨id,sp,cap,hv,hg,_,_,Xo,hx⟩:=ho.index (i:=j) (x:=bC out[j]) (by simp[aZ]) .i64
  simp only[bC]at hx
  rw[aC Pm.eq_1]
  simp[h4,h6,h7,cM,aZ,Xo,hg,hx,gc,hyes,hmv,-List.getElem?_map]
  rw[bE (by omega) (by omega)]
  generalize hF:upd _ 7 _=F
  refine ih (j+1) F (by omega) (by omega) (by rw[←hF];simp[h4]) (by rw[←hF];simp[h6]) (by rw[←hF];simp) fun F' a b=>hP F' a fun r hr dW=>?_
  rw[b r hr dW,←hF]
  simp[k r _ hr,dW]
end Go.Dm.Tc
/-
What the reference's functions compute,part 11: its predicate Fg of constraints;do two predicates meet?
-/
namespace Go.Dm.Tc
def rJ(o:Option bN)(r:Option DV):Prop :=
 match o with
 | some out=>r=some (.tup [eL false 5 bC out,.bool true])
 | none=>r=some (.tup [.isl false 0 [],.bool false])
theorem XG{cm:kM→Int}{out:bN}(h:iN cm out=false)(hl:aV cm out<out.length):¬cm out[aV cm out]=0:=by
 unfold iN at h
 rw[List.getElem?_eq_getElem hl]at h
 simpa using h
theorem m195(t:Bool)(l:bN)(hl:l.length≤1000000)(hr:∀c∈l,pM c.kind) :
  ∀(rest:bN) (i:Nat) (out:bN) (v:DV) (f:dJ) (h:aA),l.drop i=rest→(∀c∈out,pM c.kind)→out.length≤i→f 4=v→f 10=eL t 5 bC l→f 11=.int .i64 l.length→f 12=.int .i64 i →
  OwnR 0 h v 94 5 (out.map bC)→h.lim=0→WF h →
  rJ (jD out rest) (dY (fin [.t 2,.t 3] (run D 78 [.block 0,.seq C8] (.loop Pl) f h))):=by
 intro rest
 induction rest with
 | nil =>
  intro i out v f h hd hk h5 h4 jY pT pS ho aO wf
  have hi:=cY hd
  have:¬(i<l.length):=by omega
  have r1:resolve false h 199 v=some (eL false 5 bC out):=ho.resolve false (fun y _=>(sZ y).1) (by decide)
  rw[aC Pl.eq_1]
  simp[C8,pT,pS,this,h4,jD,rJ,aT,r1]
  exact kC (fun y _=>(sZ y).2) 199 (by decide)
 | cons c rest ih =>
  intro i out v f h hd hk h5 h4 jY pT pS ho aO wf
  obtain⟨hi,he,fV⟩:=cN hd
  have hc:=hr c (by rw[←he];exact List.getElem_mem hi)
  rw[aC Pl.eq_1]
  simp[h4,jY,pT,pS,hi,he,bC,aO,wf,turn]
  generalize hF:upd _ 7 _=F
  have o1:OwnR 0 (h.push (.arr 94 5 [bC c] (some 1))) v 94 5 (out.map bC):=ho.push
  refine n195 _ (h.push (.arr 94 5 [bC c] (some 1))) out c v h.n (some 1) (by omega) (by simp) o1 (fun r=>rJ (jD out (c::rest)) (dY (fin [.t 2,.t 3] r))) _ 0 F rfl (Nat.zero_le _) (by rw[←hF];simp[h4]) (by rw[←hF];simp) (by rw[←hF];simp) fun F' q7 qr=>?_
  have q4:F' 4=v:=by rw[qr 4 (by decide) (by decide),←hF];simp[h4]
  have q6:F' 6=.ptr h.n 5 0 0:=by rw[qr 6 (by decide) (by decide),←hF];simp
  have q10:F' 10=eL t 5 bC l:=by rw[qr 10 (by decide) (by decide),←hF];simp[jY]
  have q11:F' 11=.int .i64 l.length:=by rw[qr 11 (by decide) (by decide),←hF];simp[pT]
  have q12:F' 12=.int .i64 i:=by rw[qr 12 (by decide) (by decide),←hF];simp[pS]
  clear hF qr
  have cM:∀o,lenV (h.push o) 1 v=some (.int .i64 out.length):=fun o=>by simpa using(ho.push (o:=o)).lenV
  have hmv:=ho.mapId
  have n0:¬0=h.n+1:=by omega
  by_cases aZ:aV (hU c.name) out<out.length
  ·obtain⟨id,sp,cap,hv,hg,_,_,Xo,hx⟩:=ho.index (i:=aV (hU c.name) out) (x:=bC out[aV (hU c.name) out]) (by simp[aZ]) .i64
   have hidn:=cI hg
   have dW:¬id=h.n:=by omega
   have N3:¬h.n=id:=by omega
   have hne2:¬id=h.n+1:=by omega
   have hxm:out[aV (hU c.name) out]∈out:=List.getElem_mem aZ
   generalize Xk:out[aV (hU c.name) out]=x at *
   have hx?:out[aV (hU c.name) out]?=some x:=by rw[List.getElem?_eq_getElem aZ,Xk]
   have hb:=s257 x c (hk x hxm) hc
   simp only[bC]at hx hb
   cases hh:iN (hU c.name) out with
   | true =>
    obtain⟨x2,NK,W0,_⟩:=W6 hh
    have:x2=x:=Option.some.inj (NK.symm.trans hx?)
    subst this
    have W2:x2.name=c.name:=Ss.1 W0
    rw[W2]at hb
    cases hj:nA x2 c with
    | none =>
     rw[hj]at hb
     simp only[lX]at hb
     have Fm:rO out c=none:=by simp only[rO,hh,if_true,hx?,hj]
     rw[show jD out (c::rest)=none from by simp only[jD,Fm]]
     simp[vY,q4,q6,q7,cM,hmv,aZ,Xo,hg,hx,dW,N3,hidn,bC,W2,s8,hb,aO,wf,turn,aT,rJ,-List.getElem?_map]
    | some b =>
     rw[hj]at hb
     have hje:=KT (hk x2 hxm) hc hj
     rw[hje]at hb
     simp only[lX]at hb
     have Fm:rO out c=some (out.set (aV (hU c.name) out) b):=by simp only[rO,hh,if_true,hx?,hj]
     rw[show jD out (c::rest)=jD (out.set (aV (hU c.name) out) b) rest from by simp only[jD,Fm]]
     have mP:∀p1 p2 p3,elems (((h.push p1).push p2).push p3) 5 v=some (out.map bC):=fun p1 p2 p3=>ho.push.push.push.elems
     simp[vY,q4,q6,q7,cM,hmv,aZ,Xo,hg,hx,dW,N3,hidn,bC,W2,s8,hb,aO,wf,turn,mP,-List.getElem?_map]
     generalize hA:aU _ _ _ _ _ _=A
     obtain⟨i1,K1,rfl,u1,x1,y1,j1⟩:=(dL.fresh (lo:=h.n+2) (ety:=94) (sz:=5) (xs:=[]) (cap:=some 0) (by simp[aO]) (by simp)).append (n:=0) rfl (by simp[wf]) (by simp) (by simp[aO]) hA (by simp;omega) (by decide)
     clear hA
     have a1:=x1.get (h.n+1) (by omega)
     have b1:=x1.lim
     simp[aO]at a1 b1
     obtain⟨⟨sp1,cap1,g1⟩,l1,l2⟩:=u1
     have hlt1:=cI g1
     have hix1:bY 5 (.sl i1 5 0 out.length) (.int .i64 (aV (hU c.name) out:Nat))=some (.ptr i1 5 (aV (hU c.name) out) 0):=by simp[bY,asI,aZ]
     have QY:(List.map bC out++sp1)[aV (hU c.name) out]?=some (.agg [.str x2.name,.int .i64 x2.kind,.int .i64 x2.lo,.int .i64 x2.hi,.str x2.text]):=by
      rw[List.getElem?_append_left (by simpa using aZ),List.getElem?_map,hx?];rfl
     simp[Gz,q4,q7,q12,a1,hix1,g1,b1,hlt1,QY,x1.wf,-List.getElem?_map]
     rw[bE (by omega) (by omega)]
     generalize hF:upd _ 12 _=F2
     have hin2:=xY hk hc Fm
     refine ih (i+1) (out.set (aV (hU c.name) out) b) (.sl i1 5 0 out.length) F2 _ fV hin2 (by simp;omega) ?_ ?_ ?_ ?_ (.arr i1 sp1 cap1 (by simp) ?_ ?_ (Nat.zero_le _)) ?_ ?_
     ·rw[←hF];simp
     ·rw[←hF];simp[q10]
     ·rw[←hF];simp[q11]
     ·rw[←hF];simp
     ·simp[hlt1,x1.wf,List.map_set,bC,List.set_append,aZ]
     ·simp[b1]
     ·simp[b1]
     ·simp[x1.wf]
   | false =>
    have W2:¬x.name=c.name:=fun e=>by
     have:=XG hh aZ
     rw[Xk]at this
     exact this (Ss.2 e)
    have Fm:rO out c=some (out.take (aV (hU c.name) out)++c::out.drop (aV (hU c.name) out)):=by simp[rO,hh]
    have Zt:=eI (hU c.name) out
    simp only[List.length_map]at hv
    generalize vO:aV (hU c.name) out=k at *
    subst hv
    have GI:jD out (c::rest)=jD (out.take k++c::out.drop k) rest:=by simp only[jD,Fm]
    rw[GI]
    have Rx:¬h.n+1=h.n:=by omega
    have N6:k≤out.length+sp.length:=by omega
    have oG:min k out.length=k:=by omega
    have KZ:List.take k (List.map bC out++sp)=(out.take k).map bC:=by rw[List.take_append_of_le_length (by simpa using Zt),List.map_take]
    have hnid:¬h.n+1=id:=by omega
    have EH:List.take (out.length-k) (List.drop k (List.map bC out++sp))=(out.drop k).map bC:=by
     rw[List.drop_append_of_le_length (by simpa using Zt),List.take_left' (by simp),List.map_drop]
    have hsum:k+(out.length-k)=out.length:=by omega
    simp[vY,q4,q6,q7,aZ,Xo,hg,hx,dW,N3,hne2,hidn,bC,W2,aO,wf,turn,Zt,N6,Rx,KZ,oG,-List.getElem?_map]
    generalize hA:aU _ _ _ _ _ _=A
    obtain⟨i1,K1,rfl,u1,x1,y1,j1⟩:=(dL.fresh (lo:=h.n+1) (ety:=94) (sz:=5) (xs:=[]) (cap:=some 0) (by simp[aO]) (by simp)).append (n:=0) rfl (by simp[wf]) (by simp) (by simp[aO]) hA (by simp;omega) (by decide)
    clear hA
    have a0:=x1.get h.n (by omega)
    have a1:=x1.get id (by omega)
    have b1:=x1.lim
    have w1:=x1.wf
    have n1:=x1.le
    have ul1:=u1.lo
    have m0:¬id=i1:=by omega
    have m1:¬i1=id:=by omega
    have m2:¬h.n=i1:=by omega
    have m3:¬i1=h.n:=by omega
    simp[hg,dW,hne2,aO,Rx]at a0 a1 b1 u1
    simp[q4,q6,q7,a0,a1,b1,w1,m0,m1,m2,m3,Zt,N6,hnid,Rx,oG,bC]
    generalize hA:aU _ _ _ _ _ _=A
    obtain⟨i2,K2,rfl,u2,x2,y2,j2⟩:=(u1.push (o:=_)).append (by simp[oG]) (by simp[w1]) (by simp;omega) (by simp[b1]) hA (by simp;omega) (by decide)
    clear hA
    have c1:=x2.get id (by omega)
    have d1:=x2.lim
    have n2:=x2.le
    have r1:¬id=K1.n:=by omega
    simp[a1,b1,r1]at c1 d1 u2
    simp[q4,q6,q7,dW,hg,c1,d1,x2.wf,m0,m1,m2,m3,Zt,N6,hnid,Rx,oG,EH,hsum]
    generalize hA:aU _ _ _ _ _ _=A
    obtain⟨i3,K3,rfl,u3,x3,y3,j3⟩:=u2.append (by simp[oG]) x2.wf n2 (by omega) hA (by simp;omega) (by decide)
    clear hA
    have d3:=x3.lim
    simp[Gz,q12,oG]
    rw[bE (by omega) (by omega)]
    generalize hF:upd _ 12 _=F2
    have u4:=u3.toR.lower (Nat.zero_le _)
    have u5:OwnR 0 K3 (.sl i3 5 0 (k+1+(out.length-k))) 94 5 ((out.take k++c::out.drop k).map bC):=by
     have e2:((out.take k++c::out.drop k).map bC).length=k+1+(out.length-k):=by simp[oG];omega
     rw[←e2]
     simpa[bC]using u4
    refine ih (i+1) _ _ F2 K3 fV (xY hk hc Fm) (by simp;omega) ?_ ?_ ?_ ?_ u5 (by omega) x3.wf
    ·rw[←hF];simp[oG]
    ·rw[←hF];simp[q10]
    ·rw[←hF];simp[q11]
    ·rw[←hF];simp
  ·have hh:iN (hU c.name) out=false:=by unfold iN;rw[List.getElem?_eq_none (by omega)]
   have Fm:rO out c=some (out.take (aV (hU c.name) out)++c::out.drop (aV (hU c.name) out)):=by simp[rO,hh]
   cases ho with
   | nil hv hx =>
    have ho0:out=[]:=by simpa using hx
    subst hv
    subst ho0
    have fY:aV (hU c.name) ([]:bN)=0:=rfl
    rw[fY]at q7 Fm aZ
    have GI:jD [] (c::rest)=jD [c] rest:=by simp only[jD,Fm];rfl
    rw[GI]
    have Rx:¬h.n+1=h.n:=by omega
    have Eo:∀H,mR H 5 .nsl none (some (.int .i64 0))=some .nsl:=fun _=>rfl
    have KX:∀H,mR H 5 .nsl (some (.int .i64 0)) none=some .nsl:=fun _=>rfl
    simp[vY,q4,q6,q7,bC,aO,wf,turn,Rx,Eo]
    generalize hA:aU _ _ _ _ _ _=A
    obtain⟨i1,K1,rfl,u1,x1,y1,j1⟩:=(dL.fresh (lo:=h.n+1) (ety:=94) (sz:=5) (xs:=[]) (cap:=some 0) (by simp[aO]) (by simp)).append (n:=0) rfl (by simp[wf]) (by simp) (by simp[aO]) hA (by simp) (by decide)
    clear hA
    have a0:=x1.get h.n (by omega)
    have b1:=x1.lim
    have w1:=x1.wf
    have n1:=x1.le
    have ul1:=u1.lo
    have m2:¬h.n=i1:=by omega
    have m3:¬i1=h.n:=by omega
    simp[aO,Rx]at a0 b1 u1
    simp[q4,q6,q7,a0,b1,w1,m2,m3,Rx,bC]
    generalize hA:aU _ _ _ _ _ _=A
    obtain⟨i2,K2,rfl,u2,x2,y2,j2⟩:=(u1.push (o:=_)).append (by simp) (by simp[w1]) (by simp;omega) (by simp[b1]) hA (by simp) (by decide)
    clear hA
    have d1:=x2.lim
    have n2:=x2.le
    simp[b1]at d1 u2
    simp[q4,q6,q7,d1,x2.wf,m2,m3,Rx,KX]
    generalize hA:aU _ _ _ _ _ _=A
    obtain⟨i3,K3,rfl,u3,x3,y3,j3⟩:=u2.append (by simp) x2.wf n2 (by omega) hA (by simp) (by decide)
    clear hA
    have d3:=x3.lim
    simp[Gz,q12]
    rw[bE (by omega) (by omega)]
    generalize hF:upd _ 12 _=F2
    have u4:=u3.toR.lower (Nat.zero_le _)
    refine ih (i+1) _ _ F2 K3 fV (xY hk hc Fm) (by simp) ?_ ?_ ?_ ?_ (by simpa[bC]using u4) (by omega) x3.wf
    ·rw[←hF];simp
    ·rw[←hF];simp[q10]
    ·rw[←hF];simp[q11]
    ·rw[←hF];simp
   | arr id sp cap hv hg XD fY =>
    have hidn:=cI hg
    have dW:¬id=h.n:=by omega
    have N3:¬h.n=id:=by omega
    have hne2:¬id=h.n+1:=by omega
    have Zt:=eI (hU c.name) out
    simp only[List.length_map]at hv
    generalize vO:aV (hU c.name) out=k at *
    subst hv
    have GI:jD out (c::rest)=jD (out.take k++c::out.drop k) rest:=by simp only[jD,Fm]
    rw[GI]
    have Rx:¬h.n+1=h.n:=by omega
    have N6:k≤out.length+sp.length:=by omega
    have oG:min k out.length=k:=by omega
    have KZ:List.take k (List.map bC out++sp)=(out.take k).map bC:=by rw[List.take_append_of_le_length (by simpa using Zt),List.map_take]
    have hnid:¬h.n+1=id:=by omega
    have EH:List.take (out.length-k) (List.drop k (List.map bC out++sp))=(out.drop k).map bC:=by
     rw[List.drop_append_of_le_length (by simpa using Zt),List.take_left' (by simp),List.map_drop]
    have hsum:k+(out.length-k)=out.length:=by omega
    simp[vY,q4,q6,q7,aZ,hg,dW,N3,hne2,hidn,bC,aO,wf,turn,Zt,N6,Rx,KZ,oG,-List.getElem?_map]
    generalize hA:aU _ _ _ _ _ _=A
    obtain⟨i1,K1,rfl,u1,x1,y1,j1⟩:=(dL.fresh (lo:=h.n+1) (ety:=94) (sz:=5) (xs:=[]) (cap:=some 0) (by simp[aO]) (by simp)).append (n:=0) rfl (by simp[wf]) (by simp) (by simp[aO]) hA (by simp;omega) (by decide)
    clear hA
    have a0:=x1.get h.n (by omega)
    have a1:=x1.get id (by omega)
    have b1:=x1.lim
    have w1:=x1.wf
    have n1:=x1.le
    have ul1:=u1.lo
    have m0:¬id=i1:=by omega
    have m1:¬i1=id:=by omega
    have m2:¬h.n=i1:=by omega
    have m3:¬i1=h.n:=by omega
    simp[hg,dW,hne2,aO,Rx]at a0 a1 b1 u1
    simp[q4,q6,q7,a0,a1,b1,w1,m0,m1,m2,m3,Zt,N6,hnid,Rx,oG,bC]
    generalize hA:aU _ _ _ _ _ _=A
    obtain⟨i2,K2,rfl,u2,x2,y2,j2⟩:=(u1.push (o:=_)).append (by simp[oG]) (by simp[w1]) (by simp;omega) (by simp[b1]) hA (by simp;omega) (by decide)
    clear hA
    have c1:=x2.get id (by omega)
    have d1:=x2.lim
    have n2:=x2.le
    have r1:¬id=K1.n:=by omega
    simp[a1,b1,r1]at c1 d1 u2
    simp[q4,q6,q7,dW,hg,c1,d1,x2.wf,m0,m1,m2,m3,Zt,N6,hnid,Rx,oG,EH,hsum]
    generalize hA:aU _ _ _ _ _ _=A
    obtain⟨i3,K3,rfl,u3,x3,y3,j3⟩:=u2.append (by simp[oG]) x2.wf n2 (by omega) hA (by simp;omega) (by decide)
    clear hA
    have d3:=x3.lim
    simp[Gz,q12,oG]
    rw[bE (by omega) (by omega)]
    generalize hF:upd _ 12 _=F2
    have u4:=u3.toR.lower (Nat.zero_le _)
    have u5:OwnR 0 K3 (.sl i3 5 0 (k+1+(out.length-k))) 94 5 ((out.take k++c::out.drop k).map bC):=by
     have e2:((out.take k++c::out.drop k).map bC).length=k+1+(out.length-k):=by simp[oG];omega
     rw[←e2]
     simpa[bC]using u4
    refine ih (i+1) _ _ F2 K3 fV (xY hk hc Fm) (by simp;omega) ?_ ?_ ?_ ?_ u5 (by omega) x3.wf
    ·rw[←hF];simp[oG]
    ·rw[←hF];simp[q10]
    ·rw[←hF];simp[q11]
    ·rw[←hF];simp
theorem s195(t:Bool)(l:bN)(hl:l.length≤1000000)(hr:∀c∈l,pM c.kind):rJ (jD [] l) (pcF D AN [eL t 5 bC l]):=by
 unfold pcF
 rw[aP _ _ _ _ (by simp[AN])]
 simp[AN]
 refine m195 t l hl hr l 0 [] .nsl _ pY rfl (by simp) (by simp) ?_ ?_ ?_ ?_ (.nil rfl rfl) ?_ ?_<;>simp
theorem VU(a b:bN)(ha:cZ a)(hb:cZ b):pcF D BN [bQ a,bQ b]=some (.bool (zT a b)):=by
 have XE:=ha.len
 have hlb:=hb.len
 have wJ:∀c∈a++b,cX c=true∧c.name.length≤1000000:=fun c hc=>(List.mem_append.1 hc).elim (ha.one c) (hb.one c)
 have hm:=s195 true (a++b) (by simp;omega) fun c hc=>G5 (wJ c hc).1
 unfold pcF
 rw[aP _ _ _ _ (by simp[BN])]
 simp only[bQ]
 simp[BN]
 generalize hA:aU _ _ _ _ _ _=A
 obtain⟨v1,K1,rfl,p1,x1,_⟩:=OwnR.append (lo:=0) (OwnR.fresh (lo:=0) (xs:=[]) (by simp) (by simp)) (by simp) (Nat.zero_le _) (by simp) hA (by simp;omega) (by decide)
 clear hA
 simp
 generalize hA:aU _ _ _ _ _ _=A
 obtain⟨v2,K2,rfl,p2,x2,_⟩:=OwnR.append p1 x1.wf (Nat.zero_le _) (by rw[x1.lim];simp) hA (by simp;omega) (by decide)
 clear hA
 have hp:OwnR 0 K2 v2 94 5 ((a++b).map bC):=by simpa using p2
 have r1:resolve true K2 200 v2=some (eL true 5 bC (a++b)):=hp.resolve true (fun y _=>(sZ y).1) (by decide)
 unfold zT
 rw[Rr (a++b) (out:=[]) (by simp)]
 cases hk:jD [] (a++b)with
 | none =>
  rw[hk]at hm
  simp only[rJ]at hm
  simp[u6,r1,hm,aT]
 | some out =>
  rw[hk]at hm
  simp only[rJ]at hm
  simp[u6,r1,hm,aT]
  omega
end Go.Dm.Tc
