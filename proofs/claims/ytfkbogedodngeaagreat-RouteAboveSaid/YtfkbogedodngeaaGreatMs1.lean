/- A part of the proof. -/
import Derived.Test.YtfkbogedodngeaaGreatMs0
set_option linter.all false
set_option maxRecDepth 100000
namespace Go.Dm.Tc
def kJ(p:aZ):List (DV×DV):=p.map fun c=>(.str c.name,.agg [.str c.name,.int .i64 c.kind,.int .i64 c.lo,.int .i64 c.hi,.str c.text])
theorem tN(s:List UInt8):∀{p:aZ},(∀c∈p,c.name≠s)→sH (.prim 2) (.str s) (kJ p)=some 0
 | [],_=>rfl
 | y::r,h=>by
  have h1:(s == y.name)=false:=beq_eq_false_iff_ne.2 fun e=>h y (List.mem_cons_self ..) e.symm
  have ih:=tN s (p:=r) fun c hc=>h c (List.mem_cons_of_mem _ hc)
  simp only[kJ,List.map_cons,sH,sL,pR,h1]
  rw[show sH _ _ (r.map _)=some 0 from ih]
theorem yA(s:List UInt8):∀{p:aZ} (i:Nat),(∀c∈p,c.name≠s)→fG (.prim 2) (.str s) (kJ p) i=some none
 | [],_,_=>rfl
 | y::r,i,h=>by
  have h1:(s == y.name)=false:=beq_eq_false_iff_ne.2 fun e=>h y (List.mem_cons_self ..) e.symm
  have ih:=yA s (p:=r) (i+1) fun c hc=>h c (List.mem_cons_of_mem _ hc)
  simp only[kJ,List.map_cons,fG,sL,pR,h1]
  exact ih
def oJ(p:aZ):Prop:=p.Pairwise fun a b=>a.name≠b.name
theorem Gu(s:List UInt8):∀{p:aZ} {c:iB},oJ p→p.find? (fun c=>decide (c.name=s))=some c→sH (.prim 2) (.str s) (kJ p)=some 1
 | [],_,_,h=>by cases h
 | y::r,c,hu,h=>by
  unfold oJ at hu
  rw[List.pairwise_cons]at hu
  simp only[kJ,List.map_cons,sH,sL,pR]
  by_cases h1:y.name=s
  ·rw[show(s == y.name)=true by rw[h1];simp,show sH _ _ (r.map _)=some 0 from tN s fun c hc e=>hu.1 c hc (by rw[h1,e])]
  ·rw[show(s == y.name)=false from beq_eq_false_iff_ne.2 fun e=>h1 e.symm]
   rw[List.find?_cons,decide_eq_false h1]at h
   rw[show sH _ _ (r.map _)=some 1 from Gu s hu.2 h]
theorem He(s:List UInt8):∀{p:aZ} {c:iB} (i:Nat),p.find? (fun c=>decide (c.name=s))=some c→∃ j,fG (.prim 2) (.str s) (kJ p) i=some (some (j,.agg [.str c.name,.int .i64 c.kind,.int .i64 c.lo,.int .i64 c.hi,.str c.text]))
 | [],_,_,h=>by cases h
 | y::r,c,i,h=>by
  simp only[kJ,List.map_cons,fG,sL,pR]
  by_cases h1:y.name=s
  ·rw[List.find?_cons,decide_eq_true h1]at h
   simp only[Option.some.injEq]at h
   subst h
   rw[show(s == y.name)=true by rw[h1];simp]
   exact⟨i,rfl⟩
  ·rw[List.find?_cons,decide_eq_false h1]at h
   rw[show(s == y.name)=false from beq_eq_false_iff_ne.2 fun e=>h1 e.symm]
   exact He s (i+1) h
theorem Sw{p:aZ}(hu:oJ p)(z:DV)(s:List UInt8):nF (.prim 2) z true (.str s) (some (kJ p))=some (match p.find? (fun c=>decide (c.name=s))with
  | some c=>.tup [.agg [.str c.name,.int .i64 c.kind,.int .i64 c.lo,.int .i64 c.hi,.str c.text],.bool true]
  | none=>.tup [z,.bool false]):=by
 have he:(fO (.prim 2) (.str s) (.str s)).isSome=true:=by simp
 simp only[nF,he,if_true]
 cases hf:p.find? (fun c=>decide (c.name=s))with
 | none =>
  have hn:∀c∈p,c.name≠s:=fun c hc=>by simpa using List.find?_eq_none.1 hf c hc
  simp only[lY,tN s hn,yA s 0 hn]
  rfl
 | some c =>
  obtain⟨j,hj⟩:=He s 0 hf
  simp only[lY,Gu s hu hf,hj]
  rfl
theorem AC{h:aA}{id:Nat}{p:aZ}{c:iB}(hn:∀d∈p,d.name≠c.name)(hl:h.lim≤id):J8 h (.prim 2) id (.str c.name) (.agg [.str c.name,.int .i64 c.kind,.int .i64 c.lo,.int .i64 c.hi,.str c.text]) (some (.mp (kJ p)))=some (h.set id (.mp (kJ (p++[c])))):=by
 have he:(fO (.prim 2) (.str c.name) (.str c.name)).isSome=true:=by simp
 simp only[J8,he,hl,and_self,if_true,lY,tN c.name hn,yA c.name 0 hn]
 simp[kJ]
def iJ(a b:aZ):Bool:=a.all fun c=>match b.find? (fun x=>decide (x.name=c.name))with
 | some x=>nY c x
 | none=>false
theorem l15(S:List Fr)(b:aZ)(hb:oJ b)(hl:b.length≤1000000)(a:aZ) :
  ∀(rest done:aZ) (i:Nat) (f:dK) (h:aA),b=done++rest→done.length=i→f 0=eL false 5 aW a→f 5=.map 0→f 13=eL false 5 aW b→f 14=.int .i64 b.length→f 15=.int .i64 i→h.get 0=some (.mp (kJ done))→h.lim=0→1≤h.n→WF h →
  ∃ f' h',run D 46 (.block 0::.seq D0::S) (.loop C9) f h=run D 46 S D0 f' h'∧f' 0=eL false 5 aW a∧f' 5=.map 0∧h'.get 0=some (.mp (kJ b))∧h'.lim=0∧1≤h'.n∧WF h':=by
 intro rest
 induction rest with
 | nil =>
  intro done i f h hd hi h0 h5 ES G3 Z5 g aS hn wf
  have:¬(i<b.length):=by rw[hd];simp;omega
  rw[aO C9.eq_1]
  simp[G3,Z5,this]
  exact⟨_,_,rfl,by simp[h0],by simp[h5],by rw[hd];simpa using g,aS,hn,wf⟩
 | cons c rest ih =>
  intro done i f h hd hi h0 h5 ES G3 Z5 g aS hn wf
  have aY:i<b.length:=by rw[hd];simp;omega
  have he:b[i]=c:=by simp only[hd];rw[List.getElem_append_right (by omega)];simp[hi]
  have Vm:∀d∈done,d.name≠c.name:=by
   intro d hdm
   unfold oJ at hb
   rw[hd,List.pairwise_append]at hb
   exact hb.2.2 d hdm c (List.mem_cons_self ..)
  have n0:¬0=h.n:=by omega
  have l0:0<h.n:=by omega
  have m0:¬h.n=0:=by omega
  have wM:=fun(H:aA) (hl:H.lim≤0)=>AC (h:=H) (id:=0) (p:=done) (c:=c) Vm hl
  rw[aO C9.eq_1]
  simp[h5,ES,G3,Z5,aY,he,aW,aS,n0,m0,l0,g,wf,Bx,wM]
  rw[bC (by omega) (by omega)]
  generalize hF:upd _ 15 _=F
  refine ih (done++[c]) (i+1) F _ (by rw[hd];simp) (by simp[hi]) ?_ ?_ ?_ ?_ ?_ ?_ ?_ ?_ ?_
  ·rw[←hF];simp[h0]
  ·rw[←hF];simp[h5]
  ·rw[←hF];simp[ES]
  ·rw[←hF];simp[G3]
  ·rw[←hF];simp
  ·simp[n0,m0,l0,wf]
  ·simp[aS]
  ·simp
  ·simp[wf]
theorem m15(a b:aZ)(hb:oJ b)(hl:a.length≤1000000) :
  ∀(rest:aZ) (i:Nat) (f:dK) (h:aA),a.drop i=rest→f 5=.map 0→f 24=eL false 5 aW a→f 25=.int .i64 a.length→f 26=.int .i64 i→h.get 0=some (.mp (kJ b))→h.lim=0→1≤h.n→WF h →
  gV (fin [.t 4] (run D 46 [.block 2,.seq BB] (.loop C8) f h))=some (.bool (iJ rest b)):=by
 intro rest
 induction rest with
 | nil =>
  intro i f h hd h5 h24 h25 h26 g aS hn wf
  have hi:=fY hd
  have:¬(i<a.length):=by omega
  rw[aO C8.eq_1]
  simp[BB,h25,h26,this,iJ]
 | cons c rest ih =>
  intro i f h hd h5 h24 h25 h26 g aS hn wf
  obtain⟨hi,he,nJ⟩:=iI hd
  have n0:¬0=h.n:=by omega
  have m0:¬h.n=0:=by omega
  have hlk:=fun z=>Sw hb z c.name
  rw[aO C8.eq_1]
  cases hf:b.find? (fun x=>decide (x.name=c.name))with
  | none =>
   rw[hf]at hlk
   simp[h5,h24,h25,h26,hi,he,aW,aS,n0,m0,g,wf,iH,lL,hlk,turn,iJ,hf]
  | some x =>
   rw[hf]at hlk
   cases hw:nY c x with
   | false=>simp[h5,h24,h25,h26,hi,he,aW,aS,n0,m0,g,wf,iH,lL,hlk,turn,iJ,hf,e49,s49,hw]
   | true =>
    simp[h5,h24,h25,h26,hi,he,aW,aS,n0,m0,g,wf,iH,lL,hlk,turn,e49,s49,hw]
    rw[bC (by omega) (by omega)]
    refine(ih (i+1) _ _ nJ ?_ ?_ ?_ ?_ ?_ ?_ ?_ ?_).trans ?_<;>simp[h5,h24,h25,aW,g,aS,n0,m0,wf,iJ,hf,hw]<;>omega
theorem s15(a b:aZ)(hb:oJ b)(hla:a.length≤1000000)(hlb:b.length≤1000000):pcF D t15 [bO a,bO b]=some (.bool (iJ a b)):=by
 unfold pcF
 rw[aM _ _ _ _ (by simp[t15])]
 simp only[bO]
 simp[t15]
 generalize hF:upd _ 15 _=F
 obtain⟨f',h',k1,k2,k3,k4,k5,k6,k7⟩:=l15 [] b hb hlb a b [] 0 F (qT.push (.mp [])) (by simp) rfl (by rw[←hF];simp) (by rw[←hF];simp) (by rw[←hF];simp) (by rw[←hF];simp) (by rw[←hF];simp) (by simp[kJ]) (by simp) (by simp) (by simp)
 rw[k1]
 clear hF k1
 simp[D0,k2]
 refine(m15 a b hb hla a 0 _ h' rfl ?_ ?_ ?_ ?_ k4 k5 k6 k7)<;>simp[k3]
end Go.Dm.Tc
/-
What functions of the program compute,part 15: an entry's place;an entry found;a tree's entries.
-/
namespace Go.Dm.Tc
def fW(tree sub:ID)(e:aX):Int:=if e.tree=tree∧e.sub=sub then 0 else if qC e.tree tree=true∨(e.tree=tree∧qC e.sub sub=true)then -1 else 1
theorem kM{a b:ID}:qC a b=true↔a.bS<b.bS∨a.bS=b.bS∧a.seq<b.seq:=by
 unfold qC;rw[decide_eq_true_iff,iA]
theorem ID.ext'{a b:ID}:a=b↔a.bS=b.bS∧a.seq=b.seq:=by cases a;cases b;simp
theorem Dq{tree sub:ID}{e:aX}:fW tree sub e<0↔qC e.tree tree=true∨(e.tree=tree∧qC e.sub sub=true):=by
 unfold fW
 split
 ·rename_i h
  rw[h.1,h.2,kM,kM]
  constructor
  ·intro q;omega
  ·rintro(q|⟨_,q⟩)<;>omega
 ·split
  ·rename_i h;exact⟨fun _=>h,fun _=>by decide⟩
  ·rename_i h;exact⟨fun q=>by omega,fun q=>absurd q h⟩
theorem kU{tree sub:ID}{e:aX}:fW tree sub e=0↔e.tree=tree∧e.sub=sub:=by
 unfold fW
 split
 ·rename_i h;exact⟨fun _=>h,fun _=>rfl⟩
 ·rename_i h
  split<;>exact⟨fun q=>by omega,fun q=>absurd q h⟩
theorem JQ(a b:aX):ltE a b=true↔fW b.tree b.sub a<0:=by
 rw[Dq,kM,kM]
 unfold ltE RR orI
 rw[decide_eq_true_iff]
 split
 ·rename_i h
  rw[pX]at h
  rw[iA,h]
  constructor
  ·intro q;exact .inr ⟨rfl,q⟩
  ·rintro(q|⟨_,q⟩)
   ·omega
   ·exact q
 ·rename_i h
  rw[pX]at h
  rw[iA]
  constructor
  ·intro q;exact .inl q
  ·rintro(q|⟨q,_⟩)
   ·exact q
   ·exact absurd q h
def fR(l:List aX):Prop:=l.Pairwise fun a b=>fW b.tree b.sub a<0
theorem xO{t s:ID}{a b:aX}(h1:fW b.tree b.sub a<0)(h2:fW t s b≤0):fW t s a<0:=by
 rw[Dq,kM,kM]at *
 by_cases h0:fW t s b=0
 ·rw[kU]at h0
  rw[h0.1,h0.2]at h1
  exact h1
 ·have h3:fW t s b<0:=by omega
  rw[Dq,kM,kM]at h3
  rw[ID.ext']at *
  omega
theorem MC{l:List aX}(h:fR l)(t s:ID):∀i j (hi:i<l.length) (hj:j<l.length),i≤j→fW t s l[j]<0→fW t s l[i]<0:=by
 intro i j hi hj T4 aY
 rcases Nat.lt_or_eq_of_le T4 with hl|rfl
 ·exact xO (List.pairwise_iff_getElem.1 h i j hi hj hl) (by omega)
 ·exact aY
theorem Ks:∀{l:List aX},fR l→kY ltE l=true
 | [],_=>rfl
 | [a],_=>rfl
 | a::b::r,h=>by
  unfold fR at h
  rw[List.pairwise_cons]at h
  simp only[kY,Bool.and_eq_true]
  exact⟨(JQ a b).2 (h.1 b (List.mem_cons_self ..)),Ks (l:=b::r) h.2⟩
def isE(tree sub:ID)(e:aX):Bool:=decide (e.tree=tree∧e.sub=sub)
theorem RL{l:List aX}(h:fR l)(t s:ID):match l.find? (isE t s)with
  | some a=>eJ (fW t s) l=true∧l[bG (fW t s) l]?=some a
  | none=>eJ (fW t s) l=false:=by
 cases hf:l.find? (isE t s)with
 | some a =>
  have hax:a.tree=t∧a.sub=s:=by simpa[isE]using List.find?_some hf
  obtain⟨i,hi,La⟩:=List.mem_iff_getElem.1 (List.mem_of_find?_eq_some hf)
  have h0:fW t s a=0:=kU.2 hax
  have hk:bG (fW t s) l=i:=by
   refine mT (Nat.le_of_lt hi) (fun q hq=>?_) (fun hq=>?_)
   ·exact xO (List.pairwise_iff_getElem.1 h q i (by omega) hi hq) (by rw[La,h0];decide)
   ·rw[La,h0];decide
  have OY:l[bG (fW t s) l]?=some a:=by rw[hk,List.getElem?_eq_getElem hi,La]
  refine⟨?_,OY⟩
  unfold eJ
  rw[OY]
  simp[h0]
 | none =>
  unfold eJ
  cases hg:l[bG (fW t s) l]? with
  | none=>rfl
  | some a =>
   have:=List.find?_eq_none.1 hf a (List.mem_of_getElem? hg)
   simp only[decide_eq_false_iff_not]
   rw[kU]
   simpa[isE]using this
theorem SJ(tg:Bool)(e:aX)(c d t1 t2:Int):pcF D Qg [.agg [.int .i64 e.tree.bS,.int .i64 e.tree.seq,.int .i64 e.sub.bS,.int .i64 e.sub.seq,bO e.pred,.int .i64 e.jW,.bool e.up],.agg [.int .i64 c,.int .i64 d],.iptr tg [.int .i64 t1,.int .i64 t2] 0]=some (.int .i64 (fW ⟨t1,t2⟩ ⟨c,d⟩ e)):=by
 obtain⟨⟨a1,a2⟩,⟨b1,b2⟩,p,q,u⟩:=e
 unfold pcF
 rw[aM _ _ _ _ (by simp[Qg])]
 simp only
 have hA:((a1 == t1) && (a2 == t2))=decide ((⟨a1,a2⟩:ID)=⟨t1,t2⟩):=by by_cases h1:a1=t1<;>by_cases h2:a2=t2<;>simp[h1,h2]
 have hB:((b1 == c) && (b2 == d))=decide ((⟨b1,b2⟩:ID)=⟨c,d⟩):=by by_cases h1:b1=c<;>by_cases h2:b2=d<;>simp[h1,h2]
 by_cases h1:(⟨a1,a2⟩:ID)=⟨t1,t2⟩
 ·rw[decide_eq_true h1]at hA
  have aY:qC ⟨a1,a2⟩ ⟨t1,t2⟩=false:=by rw[h1];simp[qC,(pX (a:=⟨t1,t2⟩)).2 rfl]
  by_cases h2:(⟨b1,b2⟩:ID)=⟨c,d⟩
  ·rw[decide_eq_true h2]at hB
   simp[Qg,-Bool.and_eq_true,-beq_iff_eq,hA,hB,fW,h1,h2]
  ·rw[decide_eq_false h2]at hB
   cases hs:qC ⟨b1,b2⟩ ⟨c,d⟩<;>simp[Qg,-Bool.and_eq_true,-beq_iff_eq,hA,hB,fW,eq_true h1,h2,e88,s88,aY,hs]
 ·rw[decide_eq_false h1]at hA
  cases aY:qC ⟨a1,a2⟩ ⟨t1,t2⟩<;>simp[Qg,-Bool.and_eq_true,-beq_iff_eq,hA,fW,h1,e88,s88,aY]
end Go.Dm.Tc
/-
What functions of the program compute,part 16: an entry found;a tree's entries;is a predicate covered?
-/
namespace Go.Dm.Tc
theorem QY(x0 x1 x2 x3 x5:DV)(t:Bool)(l:List aX)(a b c d:Int)(hr:fR l)(hl:l.length≤1000000) :
  pcF D M8 [.agg [x0,x1,x2,x3,eL t 7 aD l,x5],.agg [.int .i64 a,.int .i64 b],.agg [.int .i64 c,.int .i64 d]]=some (.tup [.int .i64 (bG (fW ⟨a,b⟩ ⟨c,d⟩) l),.bool (eJ (fW ⟨a,b⟩ ⟨c,d⟩) l)]):=by
 have hb:=SK t l c d 159 [.iptr true [.int .i64 a,.int .i64 b] 0] (fW ⟨a,b⟩ ⟨c,d⟩) (fun x _ h=>by simp[aD,TW,SJ]) hl (MC hr ⟨a,b⟩ ⟨c,d⟩)
 unfold pcF
 rw[aM _ _ _ _ (by simp[M8])]
 simp[M8,TX,hb,aL]
def ofT(tree:ID)(l:List aX):List aX:=l.filter fun e=>decide (e.tree=tree)
theorem l14(t:Bool)(l:List aX)(c d:Int)(hl:l.length≤1000000)(h0:aA)(g1:h0.get 1=some (.arr 24 2 [.agg [.int .i64 c,.int .i64 d]] (some 1)))(aS:h0.lim=0)(hn:2≤h0.n) :
  ∀(rest nV:List aX) (i:Nat) (f:dK) (h:aA),l.drop i=rest→nV.length≤i→f 3=.ptr 1 2 0 0→f 9=eL t 7 aD l→f 10=.int .i64 l.length→f 11=.int .i64 i→OwnR 2 h (f 5) 58 7 (nV.map aD)→Ext 2 h0 h →
  gV (fin [.t 4] (run D 25 [.block 0,.seq BC] (.loop D1) f h))=some (eL false 7 aD (nV++ofT ⟨c,d⟩ rest)):=by
 intro rest
 induction rest with
 | nil =>
  intro nV i f h hd ha h3 h9 lJ ET ho hx
  have hi:=fY hd
  have:¬(i<l.length):=by omega
  rw[aO D1.eq_1]
  simp only[ofT,List.filter_nil,List.append_nil]
  have hout:=ho.out (k:=22) (fun y _=>(cV y).1.mono (by decide)) (fun y _=>(cV y).2) (by decide)
  simp[BC,lJ,ET,this,-xU]
  exact hout
 | cons e rest ih =>
  intro nV i f h hd ha h3 h9 lJ ET ho hx
  obtain⟨hi,he,nJ⟩:=iI hd
  have hlH:h.lim=0:=hx.lim.trans aS
  have hg1:=(hx.get 1 (by decide)).trans g1
  have hnh:=hx.le
  have n1:¬1=h.n:=by omega
  have hw:IntKind.i64.wrap ((i:Int)+1)=(i:Int)+1:=bC (by omega) (by omega)
  rw[aO D1.eq_1]
  by_cases hc:e.tree=⟨c,d⟩
  ·have Jq:e.tree.bS=c:=by rw[hc]
   have Io:e.tree.seq=d:=by rw[hc]
   have hf:ofT ⟨c,d⟩ (e::rest)=e::ofT ⟨c,d⟩ rest:=by simp[ofT,hc]
   rw[hf,List.append_cons]
   simp[h3,h9,lJ,ET,hi,he,hlH,hg1,n1,aD,Jq,Io]
   generalize hA:bF _ _ _ _ _ _=A
   obtain⟨v',h',rfl,Tf,Im,_⟩:=ho.push.push.append hx.push.push.wf (hx.push.push.le) (by simp[hlH]) hA (by simp;omega) (by decide)
   clear hA
   simp[ET,hw]
   generalize hF:upd _ 11 _=F
   have:=ih (nV++[e]) (i+1) F h' nJ (by simp;omega) (by rw[←hF];simp[h3]) (by rw[←hF];simp[h9]) (by rw[←hF];simp[lJ]) (by rw[←hF];simp) (by rw[←hF];simp;simpa[aD,Jq,Io]using Tf) (hx.push.push.trans Im)
   simpa using this
  ·have Z3:=EK hc
   simp only at Z3
   have hf:ofT ⟨c,d⟩ (e::rest)=ofT ⟨c,d⟩ rest:=by simp[ofT,hc]
   rw[hf]
   simp[h3,h9,lJ,ET,hi,he,hlH,hg1,n1,aD,Z3,hw]
   generalize hF:upd _ 11 _=F
   exact ih nV (i+1) F _ nJ (by omega) (by rw[←hF];simp[h3]) (by rw[←hF];simp[h9]) (by rw[←hF];simp[lJ]) (by rw[←hF];simp) (by rw[←hF];simp;exact ho.push) hx.push
theorem s14(x0 x1 x2 x3 x5:DV)(t:Bool)(l:List aX)(c d:Int)(hl:l.length≤1000000) :
  pcF D t14 [.agg [x0,x1,x2,x3,eL t 7 aD l,x5],.agg [.int .i64 c,.int .i64 d]]=some (eL false 7 aD (ofT ⟨c,d⟩ l)):=by
 unfold pcF
 rw[aM _ _ _ _ (by simp[t14])]
 simp[t14,-xU]
 refine(l14 t l c d hl _ ?_ ?_ ?_ l [] 0 _ _ rfl (by simp) ?_ ?_ ?_ ?_ ?_ (Ext.refl ?_ ?_))<;>simp
 exact .nil rfl rfl
theorem SH(tg:Bool)(e:aX)(p:aZ)(hu:oJ p)(hp:p.length≤1000000)(he:e.pred.length≤1000000):pcF D L7 [.agg [.int .i64 e.tree.bS,.int .i64 e.tree.seq,.int .i64 e.sub.bS,.int .i64 e.sub.seq,bO e.pred,.int .i64 e.jW,.bool e.up],.iptr tg [bO p] 0]=some (.bool (e.up && iJ e.pred p)):=by
 unfold pcF
 rw[aM _ _ _ _ (by simp[L7])]
 cases e.up<;>simp[L7,e15,s15,hu,hp,he]
def dS(l:List aX)(tree:ID)(p:aZ):Bool:=(ofT tree l).any fun e=>e.up && iJ e.pred p
theorem QX(x0 x1 x2 x3 x5:DV)(t:Bool)(l:List aX)(c d:Int)(p:aZ)(hl:l.length≤1000000)(hu:oJ p)(hp:p.length≤1000000)(he:∀e∈l,e.pred.length≤1000000)(f0:iQ 20 x0)(f1:iQ 20 x1)(f2:iQ 20 x2)(f3:iQ 20 x3)(f5:iQ 20 x5) :
  pcF D M7 [.agg [x0,x1,x2,x3,eL t 7 aD l,x5],.agg [.int .i64 c,.int .i64 d],bO p]=some (.bool (dS l ⟨c,d⟩ p)):=by
 have g0:∀h,resolve true h 199 x0=some x0:=fun h=>f0 _ _ _ (by decide)
 have g1:∀h,resolve true h 199 x1=some x1:=fun h=>f1 _ _ _ (by decide)
 have g2:∀h,resolve true h 199 x2=some x2:=fun h=>f2 _ _ _ (by decide)
 have g3:∀h,resolve true h 199 x3=some x3:=fun h=>f3 _ _ _ (by decide)
 have g5:∀h,resolve true h 199 x5=some x5:=fun h=>f5 _ _ _ (by decide)
 have dM:(ofT ⟨c,d⟩ l).length≤1000000:=Nat.le_trans (List.length_filter_le ..) hl
 have GU:=SI false (ofT ⟨c,d⟩ l) 161 [.iptr true [bO p] 0] (fun e=>e.up && iJ e.pred p) (fun x hx=>by
  simp only[List.mem_singleton]at hx;subst hx;exact(T9 _ _ _).mono (by decide)) (fun x hx h=>by
  have:=he x (List.mem_filter.1 hx).1
  simp[aD,TU,SH,hu,hp,this]) dM
 unfold pcF
 rw[aM _ _ _ _ (by simp[M7])]
 simp[M7,e14,s14,g0,g1,g2,g3,g5,hl,TV,GU,dS,-List.any_eq_true]
end Go.Dm.Tc
/-
What functions of the program compute,part 17: is a broker tight?
-/
namespace Go.Dm.Tc
def dR(b:aG)(x:ID):Int:=((b.aP.find? fun a=>a.id=x).getD pD).dC
def AJ(b:aG)(e:aX):Bool:=e.up || decide (dR b e.tree=-1) || dS b.entries e.tree e.pred
def Vy(b:aG):Bool:=b.entries.all (AJ b)
structure GH(b:aG):Prop where
 unl:∀e∈b.entries,oJ e.pred
 len:∀e∈b.entries,e.pred.length≤1000000
end Go.Dm.Tc
/-
What the reference's functions compute,part 4: an entry's place;is a predicate covered?
-/
namespace Go.Dm.Tc
end Go.Dm.Tc
/-
What the reference's functions compute,part 5: does a predicate cover another one? is it covered?
-/
namespace Go.Dm.Tc
end Go.Dm.Tc
/-
Plain laws,part 3: names of right predicates are unlike;the two coverings are alike. The reference's Covered.
-/
namespace Go.Dm.Tc
theorem AG{a b:UInt8}:(decide (a<b))=decide (a.toNat<b.toNat):=by
 by_cases h:a<b
 ·rw[decide_eq_true h,decide_eq_true (UInt8.lt_iff_toNat_lt.1 h)]
 ·rw[decide_eq_false h,decide_eq_false (fun q=>h (UInt8.lt_iff_toNat_lt.2 q))]
theorem FZ:∀a:List UInt8,Go.Op.bytesLess a a=false
 | []=>rfl
 | a::r=>by simp only[Go.Op.bytesLess,AG,FZ r];simp
theorem vU:∀{a b c:List UInt8},Go.Op.bytesLess a b=true→Go.Op.bytesLess b c=true→Go.Op.bytesLess a c=true
 | _,[],_,h,_=>by cases ‹List UInt8›<;>simp[Go.Op.bytesLess]at h
 | _,_::_,[],_,h=>by simp[Go.Op.bytesLess]at h
 | [],_::_,_::_,_,_=>rfl
 | a::x,b::y,c::z,h1,h2=>by
  simp only[Go.Op.bytesLess,AG,Bool.or_eq_true,Bool.and_eq_true,decide_eq_true_iff,beq_iff_eq]at *
  rcases h1 with h1|⟨rfl,h1⟩
  ·rcases h2 with h2|⟨rfl,h2⟩
   ·exact .inl (by omega)
   ·exact .inl h1
  ·rcases h2 with h2|⟨rfl,h2⟩
   ·exact .inl h2
   ·exact .inr ⟨rfl,vU h1 h2⟩
theorem zH:∀{p:aZ} {prev:Option (List UInt8)},kG prev p=true→(∀n,prev=some n→∀c∈p,Go.Op.bytesLess n c.name=true)∧p.Pairwise fun a b=>Go.Op.bytesLess a.name b.name=true
 | [],_,_=>⟨fun _ _ _ h=>(by cases h),List.Pairwise.nil⟩
 | c::r,prev,h=>by
  simp only[kG,Bool.and_eq_true]at h
  obtain⟨⟨_,h2⟩,h3⟩:=h
  obtain⟨k1,k2⟩:=zH h3
  refine⟨fun n hn d hd=>?_,List.pairwise_cons.2 ⟨fun d hd=>k1 c.name rfl d hd,k2⟩⟩
  subst hn
  rcases List.mem_cons.1 hd with rfl|hd
  ·exact h2
  ·exact vU h2 (k1 c.name rfl d hd)
theorem Ci:∀{p:aZ} {prev:Option (List UInt8)},kG prev p=true→∀c∈p,cS c=true
 | [],_,_,_,h=>by cases h
 | c::r,prev,h,d,hd=>by
  simp only[kG,Bool.and_eq_true]at h
  rcases List.mem_cons.1 hd with rfl|hd
  ·exact h.1.1
  ·exact Ci h.2 d hd
theorem bM.unlike{p:aZ}(h:bM p):oJ p:=by
 have:=h.right
 unfold rF at this
 rw[Bool.and_eq_true]at this
 refine(zH this.1).2.imp fun {a b} hab e=>?_
 rw[e,FZ]at hab
 cases hab
theorem bM.each{p:aZ}(h:bM p):∀c∈p,cS c=true:=by
 have:=h.right
 unfold rF at this
 rw[Bool.and_eq_true]at this
 exact Ci this.1
theorem bM.nil:bM []:=⟨rfl,⟨by decide,fun c h=>by cases h⟩,by decide⟩
end Go.Dm.Tc
/-
What functions of the program compute,part 18: an entry added.
-/
namespace Go.Dm.Tc
def zQ(e:aX)(l:List aX):List aX:=l.take (bG (fW e.tree e.sub) l)++e::l.drop (bG (fW e.tree e.sub) l)
def mS(b:aG)(e:aX):Bool :=
 match b.aP.find? (fun a=>a.id=e.tree)with
 | none=>false
 | some a=>!(b.entries.any (isE e.tree e.sub)) && !(decide (e.jW=a.dC) && !decide (a.dC=-1))
def wT(b:aG)(e:aX):Bool:=!decide (dR b e.tree=-1) && !dS b.entries e.tree e.pred
def eS(b:aG)(e:aX):aG×Bool :=
 if mS b e=true then({b with entries:=zQ {e with up:=wT b e} b.entries},wT b e)else(b,false)
theorem EZ{l:List aX}{t s:ID}:l.any (isE t s)=lB (l.find? (isE t s)):=by
 cases h:l.find? (isE t s)with
 | none =>
  rw[List.any_eq_false.2]
  ·rfl
  ·intro x hx
   have:=List.find?_eq_none.1 h x hx
   simpa using this
 | some a=>exact List.any_eq_true.2 ⟨a,List.mem_of_find?_eq_some h,List.find?_some h⟩
theorem s92(b:aG)(e:aX)(hs:mK b)(hq:GH b)(KH:bM e.pred)(ra:eG (b.aP.map (·.id)))(re:fR b.entries) :
  pcF D t92 [aQ .none b,.agg [.int .i64 e.tree.bS,.int .i64 e.tree.seq,.int .i64 e.sub.bS,.int .i64 e.sub.seq,bO e.pred,.int .i64 e.jW,.bool e.up]]=some (.tup [aQ .none (eS b e).1,.bool (eS b e).2]):=by
 obtain⟨me,bJ,adv,seen,ent,own⟩:=b
 obtain⟨⟨tc,td⟩,⟨sc,sd⟩,p,jW,up⟩:=e
 obtain⟨z1,z2,z3,z4,z5⟩:=hs
 simp only at z1 z2 z3 z4 z5 ra re KH
 obtain⟨R,hR⟩:∃ R,R=DV.tup [aQ .none (eS ⟨me,bJ,adv,seen,ent,own⟩ ⟨⟨tc,td⟩,⟨sc,sd⟩,p,jW,up⟩).1,.bool (eS ⟨me,bJ,adv,seen,ent,own⟩ ⟨⟨tc,td⟩,⟨sc,sd⟩,p,jW,up⟩).2]:=⟨_,rfl⟩
 rw[←hR]
 have GV:adv.length≤1000000:=by omega
 have nI:ent.length≤1000000:=by omega
 have f1:=fun {α:Type} (t:Bool) (sz:Nat) (e:α→DV) (xs:List α)=>(nM t sz e xs).mono (show 1≤20 by decide)
 have hFd:=fun u4=>s66 (.int .i64 me) (eL false 1 fJ bJ) (eL false 2 eID seen) (eL u4 7 aD ent) (eL false 3 bL own) false adv tc td ra GV ((hZ _ _).mono (by decide)) (f1 _ _ _ _) (f1 _ _ _ _) (f1 _ _ _ _) (f1 _ _ _ _)
 have hPl:=fun u4=>QY (.int .i64 me) (eL false 1 fJ bJ) (eL false 4 aH adv) (eL false 2 eID seen) (eL false 3 bL own) u4 ent tc td sc sd re nI
 have hCv:=fun u4=>QX (.int .i64 me) (eL false 1 fJ bJ) (eL false 4 aH adv) (eL false 2 eID seen) (eL false 3 bL own) u4 ent tc td p nI KH.unlike (Nat.le_trans KH.len (by decide)) hq.len ((hZ _ _).mono (by decide)) (f1 _ _ _ _) (f1 _ _ _ _) (f1 _ _ _ _) (f1 _ _ _ _)
 have uI:=RL re ⟨tc,td⟩ ⟨sc,sd⟩
 have hany:=EZ (l:=ent) (t:=⟨tc,td⟩) (s:=⟨sc,sd⟩)
 unfold pcF
 rw[aM _ _ _ _ (by simp[t92])]
 simp[t92,aQ,gQ.none,e74]
 generalize hA:cH _ _ _ _ _=A
 obtain⟨v4,K,rfl,o4,x,_⟩:=pO (lo:=3) (jS ..) (by simp) (by simp) (by simp) (by simp;omega) (by decide) hA
 clear hA
 have a0:=x.get 0 (by decide)
 have a1:=x.get 1 (by decide)
 have a2:=x.get 2 (by decide)
 have q0:=x.lim
 have w0:=x.wf
 have n0:=x.le
 simp at a0 a1 a2 q0
 have l0':0<K.n:=by omega
 obtain⟨H,hH⟩:∃ H,H=K.set 0 (.arr 31 6 [.agg [.int .i64 me,eL false 1 fJ bJ,eL false 4 aH adv,eL false 2 eID seen,v4,eL false 3 bL own]] (some 1)):=⟨_,rfl⟩
 have wH:WF H:=by rw[hH];exact w0.set
 have nH:H.n=K.n:=by rw[hH];rfl
 have lH:H.lim=0:=by rw[hH];exact q0
 have g0:H.get 0=some (.arr 31 6 [.agg [.int .i64 me,eL false 1 fJ bJ,eL false 4 aH adv,eL false 2 eID seen,v4,eL false 3 bL own]] (some 1)):=by rw[hH,bW w0 l0',if_pos rfl]
 have g1:H.get 1=some (.arr 58 7 [.agg [.int .i64 tc,.int .i64 td,.int .i64 sc,.int .i64 sd,bO p,.int .i64 jW,.bool up]] (some 1)):=by rw[hH,bW w0 l0',if_neg (by decide)];exact a1
 have g2:H.get 2=some (.arr 31 6 [.agg [.int .i64 0,.nsl,.nsl,.nsl,.nsl,.nsl]] (some 1)):=by rw[hH,bW w0 l0',if_neg (by decide)];exact a2
 have st4:=o4.aU
 have ec4:=o4.aF
 replace o4:Own 3 H v4 58 7 (ent.map aD):=by rw[hH];exact o4.bA w0 (by decide) l0'
 simp[a0,a1,a2,q0,w0,l0',st4,ec4,turn]
 rw[←hH]
 clear hH
 have l0:0<H.n:=by omega
 have l1:1<H.n:=by omega
 have l2:2<H.n:=by omega
 have nn0:¬0=H.n:=by omega
 have nn1:¬1=H.n:=by omega
 have nn2:¬2=H.n:=by omega
 have mm0:¬H.n=0:=by omega
 have mm1:¬H.n=1:=by omega
 have mm2:¬H.n=2:=by omega
 have r1:resolve true H 199 v4=some (eL true 7 aD ent):=o4.resolve true (fun y _=>(cV y).1) (by decide)
 have r1p:∀o,resolve true (H.push o) 199 v4=some (eL true 7 aD ent):=fun o=>o4.push.resolve true (fun y _=>(cV y).1) (by decide)
 have r2:∀o o',resolve false ((H.set 2 o').push o) 198 v4=some (eL false 7 aD ent):=fun o o'=>((o4.bA wH (by decide) l2).push).resolve false (fun y _=>(cV y).1) (by decide)
 cases Yx:adv.find? (fun a=>decide (a.id=⟨tc,td⟩))with
 | none =>
  rw[Yx]at hFd
  have Jn:mS ⟨me,bJ,adv,seen,ent,own⟩ ⟨⟨tc,td⟩,⟨sc,sd⟩,p,jW,up⟩=false:=by simp[mS,Yx]
  simp[g0,g1,g2,lH,wH,nn0,nn1,nn2,mm0,mm1,mm2,l0,l1,l2,e66,hFd,Dl,hPl,uI,r1,r2,aH,turn,aL,lB,pD,r1p]
  simp[hR,eS,Jn,aQ,gQ.none]
 | some a =>
  rw[Yx]at hFd
  simp only[aH,Option.getD_some]at hFd
  cases Kz:ent.find? (isE ⟨tc,td⟩ ⟨sc,sd⟩)with
  | some e2 =>
   rw[Kz]at uI hany
   simp only at uI
   have hhit':=uI.1
   have Jn:mS ⟨me,bJ,adv,seen,ent,own⟩ ⟨⟨tc,td⟩,⟨sc,sd⟩,p,jW,up⟩=false:=by simp only[mS,Yx,hany];simp[lB]
   simp[g0,g1,g2,lH,wH,nn0,nn1,nn2,mm0,mm1,mm2,l0,l1,l2,e66,hFd,Dl,hPl,r1,r2,aH,turn,aL,lB,r1p,hhit']
   simp[hR,eS,Jn,aQ,gQ.none]
  | none =>
   rw[Kz]at uI hany
   simp only at uI
   by_cases ML:jW=a.dC∧¬a.dC=-1
   ·have Jn:mS ⟨me,bJ,adv,seen,ent,own⟩ ⟨⟨tc,td⟩,⟨sc,sd⟩,p,jW,up⟩=false:=by simp only[mS,Yx,hany];simp[ML.1,ML.2]
    have hf1:=ML.1
    have hf2:=ML.2
    subst hf1
    simp[g0,g1,g2,lH,wH,nn0,nn1,nn2,mm0,mm1,mm2,l0,l1,l2,e66,hFd,Dl,hPl,uI,r1,r2,aH,turn,aL,lB,r1p,hf2]
    simp[hR,eS,Jn,aQ,gQ.none]
   ·have Jn:mS ⟨me,bJ,adv,seen,ent,own⟩ ⟨⟨tc,td⟩,⟨sc,sd⟩,p,jW,up⟩=true:=by
     simp only[mS,Yx,hany,lB]
     by_cases h1:jW=a.dC
     ·have h2:a.dC=-1:=by
       by_cases h2:a.dC=-1
       ·exact h2
       ·exact absurd ⟨h1,h2⟩ ML
      simp[h2]
     ·simp[h1]
    have uH:dR ⟨me,bJ,adv,seen,ent,own⟩ ⟨tc,td⟩=a.dC:=by simp[dR,Yx]
    by_cases Ny:a.dC=-1
    ·have wM:wT ⟨me,bJ,adv,seen,ent,own⟩ ⟨⟨tc,td⟩,⟨sc,sd⟩,p,jW,up⟩=false:=by simp[wT,uH,Ny]
     by_cases hfm:jW=a.dC
     ·simp[g0,g1,g2,lH,wH,nn0,nn1,nn2,mm0,mm1,mm2,l0,l1,l2,e66,hFd,Dl,hPl,uI,r1,aH,turn,r1p,lB,eq_true Ny,eq_true hfm]
      generalize hA:fc D _ _ _=A
      have o4i:=o4.push (o:=.arr 37 4 [.agg [.int .i64 a.id.bS,.int .i64 a.id.seq,bO a.pred,.int .i64 a.dC]] (some 1))
      obtain⟨v4',K2,rfl,p4,x2,_⟩:=JB hA 3 ent ⟨⟨tc,td⟩,⟨sc,sd⟩,p,jW,false⟩ (vety:=58) (c:=1) (by
        have:=((o4i.bA (id:=1) (o:=.arr 58 7 [.agg [.int .i64 tc,.int .i64 td,.int .i64 sc,.int .i64 sd,bO p,.int .i64 jW,.bool false]] (some 1)) wH.push (by decide) (by simp;omega)).push (o:=.arr 58 7 [.agg [.int .i64 tc,.int .i64 td,.int .i64 sc,.int .i64 sd,bO p,.int .i64 jW,.bool false]] (some 1)))
        simpa[l1,wH]using this) (by simp[aD,nn0,nn1,nn2,mm0,mm1,mm2,l0,l1,l2,wH]) (hG _ _) nI (by simp[wH]) (by simp;omega) (by simp[lH])
      clear hA
      have b0:=x2.get 0 (by decide)
      have b1:=x2.get 1 (by decide)
      have b2:=x2.get 2 (by decide)
      have q2:=x2.lim
      have w2:=x2.wf
      have n2:=x2.le
      simp[g0,g1,g2,lH,wH,nn0,nn1,nn2,mm0,mm1,mm2,l0,l1,l2]at b0 b1 b2 q2
      have Jr:0<K2.n:=by omega
      have ER:2<K2.n:=by omega
      have r4':=fun o o'=>((p4.bA (o:=o) w2 (by decide) Jr).bA (o:=o') w2.set (by decide) ER).resolve (n:=198) false (fun y _=>(cV y).1) (by decide)
      simp[b0,b1,b2,q2,w2,Jr,ER,p4.aU,p4.aF,turn,r4',aL]
      simp[hR,eS,Jn,wM,aQ,gQ.none,zQ]
     ·simp[g0,g1,g2,lH,wH,nn0,nn1,nn2,mm0,mm1,mm2,l0,l1,l2,e66,hFd,Dl,hPl,uI,r1,aH,turn,r1p,lB,eq_true Ny,hfm]
      generalize hA:fc D _ _ _=A
      have o4i:=o4.push (o:=.arr 37 4 [.agg [.int .i64 a.id.bS,.int .i64 a.id.seq,bO a.pred,.int .i64 a.dC]] (some 1))
      obtain⟨v4',K2,rfl,p4,x2,_⟩:=JB hA 3 ent ⟨⟨tc,td⟩,⟨sc,sd⟩,p,jW,false⟩ (vety:=58) (c:=1) (by
        have:=((o4i.bA (id:=1) (o:=.arr 58 7 [.agg [.int .i64 tc,.int .i64 td,.int .i64 sc,.int .i64 sd,bO p,.int .i64 jW,.bool false]] (some 1)) wH.push (by decide) (by simp;omega)).push (o:=.arr 58 7 [.agg [.int .i64 tc,.int .i64 td,.int .i64 sc,.int .i64 sd,bO p,.int .i64 jW,.bool false]] (some 1)))
        simpa[l1,wH]using this) (by simp[aD,nn0,nn1,nn2,mm0,mm1,mm2,l0,l1,l2,wH]) (hG _ _) nI (by simp[wH]) (by simp;omega) (by simp[lH])
      clear hA
      have b0:=x2.get 0 (by decide)
      have b1:=x2.get 1 (by decide)
      have b2:=x2.get 2 (by decide)
      have q2:=x2.lim
      have w2:=x2.wf
      have n2:=x2.le
      simp[g0,g1,g2,lH,wH,nn0,nn1,nn2,mm0,mm1,mm2,l0,l1,l2]at b0 b1 b2 q2
      have Jr:0<K2.n:=by omega
      have ER:2<K2.n:=by omega
      have r4':=fun o o'=>((p4.bA (o:=o) w2 (by decide) Jr).bA (o:=o') w2.set (by decide) ER).resolve (n:=198) false (fun y _=>(cV y).1) (by decide)
      simp[b0,b1,b2,q2,w2,Jr,ER,p4.aU,p4.aF,turn,r4',aL]
      simp[hR,eS,Jn,wM,aQ,gQ.none,zQ]
    ·have hfne:¬jW=a.dC:=fun e=>ML ⟨e,Ny⟩
     cases hC:dS ent ⟨tc,td⟩ p with
     | true =>
      rw[hC]at hCv
      have wM:wT ⟨me,bJ,adv,seen,ent,own⟩ ⟨⟨tc,td⟩,⟨sc,sd⟩,p,jW,up⟩=false:=by simp[wT,hC]
      simp[g0,g1,g2,lH,wH,nn0,nn1,nn2,mm0,mm1,mm2,l0,l1,l2,e66,hFd,Dl,hPl,uI,r1,aH,turn,r1p,lB,Ny,hfne,LJ,hCv]
      generalize hA:fc D _ _ _=A
      have o4i:=o4.push (o:=.arr 37 4 [.agg [.int .i64 a.id.bS,.int .i64 a.id.seq,bO a.pred,.int .i64 a.dC]] (some 1))
      obtain⟨v4',K2,rfl,p4,x2,_⟩:=JB hA 3 ent ⟨⟨tc,td⟩,⟨sc,sd⟩,p,jW,false⟩ (vety:=58) (c:=1) (by
        have:=((o4i.bA (id:=1) (o:=.arr 58 7 [.agg [.int .i64 tc,.int .i64 td,.int .i64 sc,.int .i64 sd,bO p,.int .i64 jW,.bool false]] (some 1)) wH.push (by decide) (by simp;omega)).push (o:=.arr 58 7 [.agg [.int .i64 tc,.int .i64 td,.int .i64 sc,.int .i64 sd,bO p,.int .i64 jW,.bool false]] (some 1)))
        simpa[l1,wH]using this) (by simp[aD,nn0,nn1,nn2,mm0,mm1,mm2,l0,l1,l2,wH]) (hG _ _) nI (by simp[wH]) (by simp;omega) (by simp[lH])
      clear hA
      have b0:=x2.get 0 (by decide)
      have b1:=x2.get 1 (by decide)
      have b2:=x2.get 2 (by decide)
      have q2:=x2.lim
      have w2:=x2.wf
      have n2:=x2.le
      simp[g0,g1,g2,lH,wH,nn0,nn1,nn2,mm0,mm1,mm2,l0,l1,l2]at b0 b1 b2 q2
      have Jr:0<K2.n:=by omega
      have ER:2<K2.n:=by omega
      have r4':=fun o o'=>((p4.bA (o:=o) w2 (by decide) Jr).bA (o:=o') w2.set (by decide) ER).resolve (n:=198) false (fun y _=>(cV y).1) (by decide)
      simp[b0,b1,b2,q2,w2,Jr,ER,p4.aU,p4.aF,turn,r4',aL]
      simp[hR,eS,Jn,wM,aQ,gQ.none,zQ]
     | false =>
      rw[hC]at hCv
      have wM:wT ⟨me,bJ,adv,seen,ent,own⟩ ⟨⟨tc,td⟩,⟨sc,sd⟩,p,jW,up⟩=true:=by simp[wT,uH,Ny,hC]
      simp[g0,g1,g2,lH,wH,nn0,nn1,nn2,mm0,mm1,mm2,l0,l1,l2,e66,hFd,Dl,hPl,uI,r1,aH,turn,r1p,lB,Ny,hfne,LJ,hCv]
      generalize hA:fc D _ _ _=A
      have o4i:=o4.push (o:=.arr 37 4 [.agg [.int .i64 a.id.bS,.int .i64 a.id.seq,bO a.pred,.int .i64 a.dC]] (some 1))
      obtain⟨v4',K2,rfl,p4,x2,_⟩:=JB hA 3 ent ⟨⟨tc,td⟩,⟨sc,sd⟩,p,jW,true⟩ (vety:=58) (c:=1) (by
        have:=((o4i.bA (id:=1) (o:=.arr 58 7 [.agg [.int .i64 tc,.int .i64 td,.int .i64 sc,.int .i64 sd,bO p,.int .i64 jW,.bool true]] (some 1)) wH.push (by decide) (by simp;omega)).push (o:=.arr 58 7 [.agg [.int .i64 tc,.int .i64 td,.int .i64 sc,.int .i64 sd,bO p,.int .i64 jW,.bool true]] (some 1)))
        simpa[l1,wH]using this) (by simp[aD,nn0,nn1,nn2,mm0,mm1,mm2,l0,l1,l2,wH]) (hG _ _) nI (by simp[wH]) (by simp;omega) (by simp[lH])
      clear hA
      have b0:=x2.get 0 (by decide)
      have b1:=x2.get 1 (by decide)
      have b2:=x2.get 2 (by decide)
      have q2:=x2.lim
      have w2:=x2.wf
      have n2:=x2.le
      simp[g0,g1,g2,lH,wH,nn0,nn1,nn2,mm0,mm1,mm2,l0,l1,l2]at b0 b1 b2 q2
      have Jr:0<K2.n:=by omega
      have ER:2<K2.n:=by omega
      have r4':=fun o o'=>((p4.bA (o:=o) w2 (by decide) Jr).bA (o:=o') w2.set (by decide) ER).resolve (n:=198) false (fun y _=>(cV y).1) (by decide)
      simp[b0,b1,b2,q2,w2,Jr,ER,p4.aU,p4.aF,turn,r4',aL]
      simp[hR,eS,Jn,wM,aQ,gQ.none,zQ]
end Go.Dm.Tc
/-
What the reference's functions compute,part 6: an entry added.
-/
namespace Go.Dm.Tc
end Go.Dm.Tc
/-
What the reference's functions compute,part 7: an entry added,all of it.
-/
namespace Go.Dm.Tc
end Go.Dm.Tc
/-
Two rows of one element type side by side: what is put behind one leaves the other one alone.
-/
namespace Go.Dm.Tc
def Ih(v:DV)(k:Nat):Prop:=∀sz off len,v≠.sl k sz off len
theorem Pj{lo:Nat}{h:aA}{v:DV}{ety sz bytes:Nat}{xs ys:List DV}{A:Option (DV×aA)}(w:OwnR lo h v ety sz xs)(wf:WF h)(dM:lo≤h.n)(aS:h.lim≤h.n)(hA:bF h ety sz bytes v ys=A)
  (hb:(xs.length+ys.length)*bytes≤140737488355328) (As:1≤bytes) :
  ∃ v' h',A=some (v',h')∧OwnR lo h' v' ety sz (xs++ys)∧Ext lo h h'∧(∀k,k<h.n→Ih v k→h'.get k=h.get k)∧(∀k,k<h.n→Ih v k→Ih v' k):=by
 have hm:xs.length+ys.length≤140737488355328:=Nat.le_trans (Nat.le_mul_of_pos_right _ As) hb
 by_cases hy:ys=[]
 ·subst hy
  refine⟨v,h,?_,by simpa using w,.refl dM wf,fun _ _ _=>rfl,fun _ _ q=>q⟩
  rw[←hA]
  cases w with
  | nil hv hx=>subst hv;rfl
  | arr id sp cap hv hg _ _=>subst hv;rfl
 ·have Nx:ys.isEmpty=false:=by cases ys<;>simp_all
  have hyl:0<ys.length:=List.length_pos_iff.2 hy
  cases w with
  | nil hv hx =>
   subst hv;subst hx
   simp only[List.length_nil,Nat.zero_add]at hb hm
   refine⟨.sl h.n sz 0 ys.length,h.push (.arr ety sz ys none),?_,.arr h.n [] none rfl (by simp[cD]) (by exact aS) dM,(Ext.refl dM wf).push,fun k hk _=>by rw[cD,if_neg (by omega)],fun k hk _ dT off' len' e=>by injection e;omega⟩
   rw[←hA]
   simp only[bF,Nx]
   rw[if_neg (by simp),if_pos ⟨hb,by omega⟩]
  | arr id sp cap hv hg hl hi =>
   subst hv
   have aY:=aI hg
   have cY:∀k,Ih (.sl id sz 0 xs.length) k→k≠id:=fun k q e=>by subst e;exact q _ _ _ rfl
   by_cases sT:xs.length+ys.length≤(xs++sp).length
   ·refine⟨.sl id sz 0 (xs.length+ys.length),h.set id (.arr ety sz (cN (xs++sp) ys xs.length) cap),?_,.arr id (sp.drop ys.length) cap (by simp) ?_ (by exact hl) hi,(Ext.refl dM wf).set hi aY,fun k _ q=>by rw[bW wf aY,if_neg (cY k q)],fun k _ q dT off' len' e=>by injection e with e1;exact cY k q e1.symm⟩
    ·rw[←hA];exact gS hg sT hl hb As hy
    ·rw[bW wf aY,if_pos rfl]
     simp only[cN,List.take_left',List.append_assoc]
     congr 3
     rw[List.drop_append]
     simp
   ·cases cap with
    | none =>
     refine⟨.sl h.n sz 0 (xs.length+ys.length),(h.set id .dead).push (.arr ety sz (xs++ys) none),?_,.arr h.n [] none (by simp) ?_ (by exact aS) dM,((Ext.refl dM wf).set hi aY).push,fun k hk q=>by rw[cD,if_neg (by show ¬k=h.n;omega),bW wf aY,if_neg (cY k q)],fun k hk _ dT off' len' e=>by injection e;omega⟩
     ·rw[←hA]
      simp only[bF,Nx,hg]
      simp only[Bool.false_eq_true,if_false,true_and,Nat.zero_add,List.drop_zero]
      rw[if_pos ⟨by simp,hb,by omega⟩,if_neg sT,if_pos hl]
      simp
     ·simpa using bQ (h:=h.set id .dead)
    | some c =>
     refine⟨.sl h.n sz 0 (xs.length+ys.length),h.push (.arr ety sz (xs++ys) none),?_,.arr h.n [] none (by simp) ?_ (by exact aS) dM,(Ext.refl dM wf).push,fun k hk _=>by rw[cD,if_neg (by omega)],fun k hk _ dT off' len' e=>by injection e;omega⟩
     ·rw[←hA]
      rw[eN hg (by simp) (by omega) hb As hy]
      simp
     ·simpa using bQ (h:=h)
def eH(tree:ID):List aX→List aX→List aX→List aX×List aX
 | done,[],kK=>(done,kK)
 | done,e::r,kK=>if e.tree=tree∧e.up=false∧dS (done++e::r) tree e.pred=false then eH tree (done++[{e with up:=true}]) r (kK++[{e with up:=true}])else eH tree (done++[e]) r kK
def dO(b : aG)(tree sub : ID)(jW : Int) : aG × List aX × Bool :=
  match b.entries.find? (isE tree sub)with
  | none => (b, [], false)
  | some e => if e.jW = jW then
      (if e.up = true then({ b with entries := (eH tree [] (b.entries.filter fun x => !isE tree sub x) []).1 }, (eH tree [] (b.entries.filter fun x => !isE tree sub x) []).2, true)
       else({ b with entries := b.entries.filter fun x => !isE tree sub x }, [], false))
    else(b, [], false)
end Go.Dm.Tc
/-
What functions of the program compute,part 19: an entry taken out (the loop).
-/
namespace Go.Dm.Tc
theorem NT{α:Type}(l:List α)(e e':α)(r:List α)(sp:List α):(l++e::r++sp).set l.length e'=l++e'::r++sp:=by
 rw[List.append_assoc,List.append_assoc,List.set_append_right _ _ (Nat.le_refl _)]
 simp
theorem JD{lo:Nat}{h:aA}{v:DV}{ety sz:Nat}{xs:List DV}(w:OwnR lo h v ety sz xs)(wf:WF h){id:Nat}{o:DO}(aY:id<h.n)(na:Ih v id):OwnR lo (h.set id o) v ety sz xs:=by
 cases w with
 | nil hv hx=>exact .nil hv hx
 | arr k sp cap hv hg hl hi =>
  have cY:¬k=id:=fun e=>by subst e;exact na _ _ _ hv
  exact .arr k sp cap hv (by rw[bW wf aY,if_neg cY];exact hg) hl hi
theorem No{lo:Nat}{h:aA}{v:DV}{ety sz:Nat}{xs:List DV}(w:OwnR lo h v ety sz xs){k:Nat}(hk:k<lo):Ih v k:=by
 intro a b c e
 cases w with
 | nil hv hx=>rw[hv]at e;cases e
 | arr id sp cap hv hg hl hi=>rw[hv]at e;injection e;omega
set_option maxHeartbeats 1600000 in
theorem l94(S:List Fr)(me:Int)(bJ:List Int)(adv:List bZ)(seen:List ID)(own:List gT)(tc td:Int)(i4 n:Nat)(zb:DO) :
  ∀(rest done kK:List aX) (f:dK) (h:aA),done.length+rest.length=n→n≤100000→kK.length≤done.length→(∀e∈done++rest,bM e.pred) →
   f 4=.ptr 0 6 0 0→f 5=.ptr 1 2 0 0→f 8=.ptr 3 6 0 0→f 56=.sl i4 7 0 n→f 57=.int .i64 n→f 58=.int .i64 done.length →
   h.get 0=some (.arr 31 6 [.agg [.int .i64 me,eL false 1 fJ bJ,eL false 4 aH adv,eL false 2 eID seen,.sl i4 7 0 n,eL false 3 bL own]] (some 1))→h.get 1=some (.arr 24 2 [.agg [.int .i64 tc,.int .i64 td]] (some 1))→h.get 3=some zb →
   kA 4 h i4 58 7 ((done++rest).map aD)→OwnR 4 h (f 9) 58 7 (kK.map aD)→Ih (f 9) i4→h.lim=0→4≤h.n→WF h →
  ∃ f' h',run D 96 (.block 0::.seq Eh::S) (.loop Ki) f h=run D 96 S Eh f' h'∧f' 4=.ptr 0 6 0 0∧f' 8=.ptr 3 6 0 0 ∧
   h'.get 0=some (.arr 31 6 [.agg [.int .i64 me,eL false 1 fJ bJ,eL false 4 aH adv,eL false 2 eID seen,.sl i4 7 0 n,eL false 3 bL own]] (some 1))∧h'.get 3=some zb ∧
   kA 4 h' i4 58 7 ((eH ⟨tc,td⟩ done rest kK).1.map aD)∧OwnR 4 h' (f' 9) 58 7 ((eH ⟨tc,td⟩ done rest kK).2.map aD)∧(eH ⟨tc,td⟩ done rest kK).1.length=n∧h'.lim=0∧4≤h'.n∧WF h':=by
 intro rest
 induction rest with
 | nil =>
  intro done kK f h hn OW hu hp h4 h5 h8 KW GW PB g0 g1 g3 o4 o9 na aS hn4 wf
  have:¬(done.length<n):=by simp at hn;omega
  rw[aO Ki.eq_1]
  simp[GW,PB,this]
  refine⟨_,_,rfl,by simp[h4],by simp[h8],g0,g3,?_,?_,?_,aS,hn4,wf⟩
  ·simpa[eH]using o4
  ·simpa[eH]using o9
  ·simpa[eH]using hn
 | cons e rest ih =>
  intro done kK f h hn OW hu hp h4 h5 h8 KW GW PB g0 g1 g3 o4 o9 na aS hn4 wf
  have aY:done.length<n:=by simp at hn;omega
  have eK:=o4.lt
  have dM:=o4.lo
  have hL:(done++e::rest).length=n:=by simp at hn ⊢;omega
  obtain⟨⟨sp,cap,g4⟩,hl4,_⟩:=o4
  have hw:IntKind.i64.wrap ((done.length:Int)+1)=(done.length:Int)+1:=bC (by omega) (by omega)
  have n0:¬0=h.n:=by omega
  have n1:¬1=h.n:=by omega
  have n3:¬3=h.n:=by omega
  have n4:¬i4=h.n:=by omega
  have m0:¬h.n=0:=by omega
  have m1:¬h.n=1:=by omega
  have i0:¬0=i4:=by omega
  have i1:¬1=i4:=by omega
  have i3:¬3=i4:=by omega
  have j0:¬i4=0:=by omega
  have j1:¬i4=1:=by omega
  have La:cF 7 (.sl i4 7 0 n) (.int .i64 (done.length:Int))=some (.ptr i4 7 done.length 0):=by simp[cF,asI,aY]
  have nI:(List.map aD (done++e::rest)++sp)[done.length]?=some (aD e):=by
   rw[List.getElem?_append_left (by simp),List.getElem?_map,List.getElem?_append_right (Nat.le_refl _)];simp
  have f1:=fun {α:Type} (t:Bool) (sz:Nat) (e:α→DV) (xs:List α)=>(nM t sz e xs).mono (show 1≤20 by decide)
  have hpe:=hp e (by simp)
  have hCv:=QX (.int .i64 me) (eL false 1 fJ bJ) (eL false 4 aH adv) (eL false 2 eID seen) (eL false 3 bL own) true (done++e::rest) tc td e.pred (by omega) hpe.unlike (Nat.le_trans hpe.len (by decide)) (fun x hx=>Nat.le_trans (hp x hx).len (by decide)) ((hZ _ _).mono (by decide)) (f1 _ _ _ _) (f1 _ _ _ _) (f1 _ _ _ _) (f1 _ _ _ _)
  have o4R:∀o,OwnR 4 (h.push o) (.sl i4 7 0 n) 58 7 ((done++e::rest).map aD):=fun o=>by
   have:=(kA.toR (⟨⟨sp,cap,g4⟩,hl4,dM⟩:kA 4 h i4 58 7 ((done++e::rest).map aD))).push (o:=o)
   rw[List.length_map,hL]at this
   exact this
  have r4:∀o,resolve true (h.push o) 199 (.sl i4 7 0 n)=some (eL true 7 aD (done++e::rest)):=fun o=>(o4R o).resolve true (fun y _=>(cV y).1) (by decide)
  simp only[aD]at nI
  have Gm:∀F o,eH ⟨tc,td⟩ done (e::rest) kK=eH ⟨tc,td⟩ (done++[e]) rest kK→F 4=.ptr 0 6 0 0→F 5=.ptr 1 2 0 0→F 8=.ptr 3 6 0 0→F 56=.sl i4 7 0 n→F 57=.int .i64 n→F 58=.int .i64 ((done.length:Int)+1)→F 9=f 9 →
    ∃ f' h',run D 96 (.block 0::.seq Eh::S) (.loop Ki) F (h.push o)=run D 96 S Eh f' h'∧f' 4=.ptr 0 6 0 0∧f' 8=.ptr 3 6 0 0 ∧
   h'.get 0=some (.arr 31 6 [.agg [.int .i64 me,eL false 1 fJ bJ,eL false 4 aH adv,eL false 2 eID seen,.sl i4 7 0 n,eL false 3 bL own]] (some 1))∧h'.get 3=some zb ∧
   kA 4 h' i4 58 7 ((eH ⟨tc,td⟩ done (e::rest) kK).1.map aD)∧OwnR 4 h' (f' 9) 58 7 ((eH ⟨tc,td⟩ done (e::rest) kK).2.map aD)∧(eH ⟨tc,td⟩ done (e::rest) kK).1.length=n∧h'.lim=0∧4≤h'.n∧WF h':=by
   intro F o ht a4 a5 a8 a56 a57 a58 a9
   rw[ht]
   refine ih (done++[e]) kK F _ (by simp at hn ⊢;omega) OW (by simp;omega) (by simpa using hp) a4 a5 a8 a56 a57 (by rw[a58];simp) ?_ ?_ ?_ ?_ ?_ ?_ aS (by show 4≤h.n+1;omega) wf.push
   ·rw[cD,if_neg n0];exact g0
   ·rw[cD,if_neg n1];exact g1
   ·rw[cD,if_neg n3];exact g3
   ·have:=(⟨⟨sp,cap,g4⟩,hl4,dM⟩:kA 4 h i4 58 7 ((done++e::rest).map aD)).push (o:=o)
    simpa using this
   ·rw[a9];exact o9.push
   ·rw[a9];exact na
  rw[aO Ki.eq_1]
  by_cases ht:e.tree=⟨tc,td⟩
  ·have Jq:e.tree.bS=tc:=by rw[ht]
   have Io:e.tree.seq=td:=by rw[ht]
   cases wM:e.up with
   | true =>
    have yO:eH ⟨tc,td⟩ done (e::rest) kK=eH ⟨tc,td⟩ (done++[e]) rest kK:=by simp[eH,wM]
    simp[h4,h5,KW,GW,PB,aY,La,g4,nI,aD,aS,n0,n1,n4,m0,m1,g0,g1,Jq,Io,wM,hw]
    generalize hF:upd _ 58 _=F
    exact Gm F _ yO (by rw[←hF];simp[h4]) (by rw[←hF];simp[h5]) (by rw[←hF];simp[h8]) (by rw[←hF];simp[KW]) (by rw[←hF];simp[GW]) (by rw[←hF];simp) (by rw[←hF];simp)
   | false =>
    cases hC:dS (done++e::rest) ⟨tc,td⟩ e.pred with
    | true =>
     rw[hC]at hCv
     have yO:eH ⟨tc,td⟩ done (e::rest) kK=eH ⟨tc,td⟩ (done++[e]) rest kK:=by simp only[eH];rw[if_neg];rw[hC];simp
     simp[h4,h5,KW,GW,PB,aY,La,g4,nI,aD,aS,n0,n1,n4,m0,m1,g0,g1,Jq,Io,wM,hw,-wG,r4,LJ,hCv]
     generalize hF:upd _ 58 _=F
     exact Gm F _ yO (by rw[←hF];simp[h4]) (by rw[←hF];simp[h5]) (by rw[←hF];simp[h8]) (by rw[←hF];simp[KW]) (by rw[←hF];simp[GW]) (by rw[←hF];simp) (by rw[←hF];simp)
    | false =>
     rw[hC]at hCv
     have hyes:eH ⟨tc,td⟩ done (e::rest) kK=eH ⟨tc,td⟩ (done++[{e with up:=true}]) rest (kK++[{e with up:=true}]):=by simp only[eH];rw[if_pos ⟨ht,wM,hC⟩]
     simp[h4,h5,KW,GW,PB,aY,La,g4,nI,aD,aS,n0,n1,n4,m0,m1,i0,i1,i3,j0,j1,g0,g1,Jq,Io,wM,hw,-wG,r4,LJ,hCv,hl4,eK,wf,turn]
     have Bj:(List.map aD done++DV.agg [.int .i64 tc,.int .i64 td,.int .i64 e.sub.bS,.int .i64 e.sub.seq,bO e.pred,.int .i64 e.jW,.bool false]::List.map aD rest++sp).set done.length (.agg [.int .i64 tc,.int .i64 td,.int .i64 e.sub.bS,.int .i64 e.sub.seq,bO e.pred,.int .i64 e.jW,.bool true])=List.map aD (done++{e with up:=true}::rest)++sp:=by
      have:=NT (List.map aD done) (DV.agg [.int .i64 tc,.int .i64 td,.int .i64 e.sub.bS,.int .i64 e.sub.seq,bO e.pred,.int .i64 e.jW,.bool false]) (.agg [.int .i64 tc,.int .i64 td,.int .i64 e.sub.bS,.int .i64 e.sub.seq,bO e.pred,.int .i64 e.jW,.bool true]) (List.map aD rest) sp
      rw[List.length_map]at this
      rw[this]
      simp[aD,Jq,Io]
     generalize hA:bF _ _ _ _ _ _=A
     obtain⟨v',h',rfl,o9',x9,fr9,na9⟩:=Pj ((JD o9 wf eK na).push.push) (by simp[wf]) (by simp;omega) (by simp[aS]) hA (by simp;omega) (by decide)
     clear hA
     have y0:=fr9 0 (by simp) (No o9 (by decide))
     have y1:=fr9 1 (by simp) (No o9 (by decide))
     have y3:=fr9 3 (by simp;omega) (No o9 (by decide))
     have y4:=fr9 i4 (by simp;omega) na
     have ny:=na9 i4 (by simp;omega) na
     have yl:=x9.lim
     have yw:=x9.wf
     have yn:=x9.le
     have n41:¬i4=h.n+1:=by omega
     have n31:¬3=h.n+1:=by omega
     have m2:¬h.n=2:=by omega
     simp[wf,eK,n0,n1,n3,n4,m0,m1,m2,i0,i1,i3,n41,n31,g0,g1,g3,aS]at y0 y1 y3 y4 yl
     simp[PB,hw]
     generalize hF:upd _ 58 _=F
     rw[hyes]
     refine ih (done++[{e with up:=true}]) (kK++[{e with up:=true}]) F h' (by simp at hn ⊢;omega) OW (by simp;omega) ?_ ?_ ?_ ?_ ?_ ?_ ?_ y0 y1 y3 ⟨⟨sp,cap,?_⟩,?_,dM⟩ ?_ ?_ yl yn yw
     ·intro x hx
      simp only[List.append_assoc,List.singleton_append,List.mem_append,List.mem_cons]at hx
      rcases hx with hx|rfl|hx
      ·exact hp x (by simp[hx])
      ·exact hpe
      ·exact hp x (by simp[hx])
     ·rw[←hF];simp[h4]
     ·rw[←hF];simp[h5]
     ·rw[←hF];simp[h8]
     ·rw[←hF];simp[KW]
     ·rw[←hF];simp[GW]
     ·rw[←hF];simp
     ·rw[y4];simp[aD,Jq,Io]
     ·rw[yl];exact Nat.zero_le _
     ·rw[←hF];simp;simpa[aD,Jq,Io]using o9'
     ·rw[←hF];simp;exact ny
  ·have Zf:=EK ht
   simp only at Zf
   have yO:eH ⟨tc,td⟩ done (e::rest) kK=eH ⟨tc,td⟩ (done++[e]) rest kK:=by simp[eH,ht]
   simp[h4,h5,KW,GW,PB,aY,La,g4,nI,aD,aS,n0,n1,n4,m0,m1,g0,g1,Zf,hw]
   generalize hF:upd _ 58 _=F
   exact Gm F _ yO (by rw[←hF];simp[h4]) (by rw[←hF];simp[h5]) (by rw[←hF];simp[h8]) (by rw[←hF];simp[KW]) (by rw[←hF];simp[GW]) (by rw[←hF];simp) (by rw[←hF];simp)
end Go.Dm.Tc
/-
What functions of the program compute,part 20: an entry taken out.
-/
namespace Go.Dm.Tc
theorem FJ{l:List aX}(hr:fR l){t s:ID}{i:Nat}{a:aX}(hi:l[i]?=some a)(ha:isE t s a=true):l.take i++l.drop (i+1)=l.filter fun x=>!isE t s x:=by
 have aY:i<l.length:=by
  by_cases h:i<l.length
  ·exact h
  ·rw[List.getElem?_eq_none (by omega)]at hi;cases hi
 have La:l[i]=a:=by rw[List.getElem?_eq_getElem aY]at hi;exact Option.some.inj hi
 have MN:a.tree=t∧a.sub=s:=by simpa[isE]using ha
 have h0:fW t s a=0:=kU.2 MN
 have cY:∀j (hj:j<l.length),j≠i→isE t s l[j]=false:=by
  intro j hj hji
  cases he:isE t s l[j]with
  | false=>rfl
  | true =>
   have EP:l[j].tree=t∧l[j].sub=s:=by simpa[isE]using he
   rcases Nat.lt_or_gt_of_ne hji with h|h
   ·have:=List.pairwise_iff_getElem.1 hr j i hj aY h
    rw[La,MN.1,MN.2,kU.2 EP]at this
    omega
   ·have:=List.pairwise_iff_getElem.1 hr i j aY hj h
    rw[La,EP.1,EP.2,h0]at this
    omega
 have h1:(l.take i).filter (fun x=>!isE t s x)=l.take i:=by
  rw[List.filter_eq_self]
  intro y hy
  obtain⟨j,hj,rfl⟩:=List.mem_iff_getElem.1 hy
  rw[List.length_take]at hj
  have:=cY j (by omega) (by omega)
  simpa using this
 have h2:(l.drop (i+1)).filter (fun x=>!isE t s x)=l.drop (i+1):=by
  rw[List.filter_eq_self]
  intro y hy
  obtain⟨j,hj,rfl⟩:=List.mem_iff_getElem.1 hy
  rw[List.length_drop]at hj
  have:=cY (i+1+j) (by omega) (by omega)
  simpa using this
 have h3:(l.drop i).filter (fun x=>!isE t s x)=l.drop (i+1):=by
  rw[List.drop_eq_getElem_cons aY,List.filter_cons,La,ha,h2];simp
 calc l.take i++l.drop (i+1)=(l.take i++l.drop i).filter (fun x=>!isE t s x):=by rw[List.filter_append,h1,h3]
  _=_:=by rw[List.take_append_drop]
theorem s94(b:aG)(tc td sc sd jW:Int)(hs:mK b)(hq:∀e∈b.entries,bM e.pred)(re:fR b.entries) :
  pcF D t94 [aQ .none b,.agg [.int .i64 tc,.int .i64 td],.agg [.int .i64 sc,.int .i64 sd],.int .i64 jW]=some (.tup [aQ .none (dO b ⟨tc,td⟩ ⟨sc,sd⟩ jW).1,eL false 7 aD (dO b ⟨tc,td⟩ ⟨sc,sd⟩ jW).2.1,.bool (dO b ⟨tc,td⟩ ⟨sc,sd⟩ jW).2.2]):=by
 obtain⟨me,bJ,adv,seen,ent,own⟩:=b
 obtain⟨z1,z2,z3,z4,z5⟩:=hs
 simp only at z1 z2 z3 z4 z5 re hq
 obtain⟨R,hR⟩:∃ R,R=DV.tup [aQ .none (dO ⟨me,bJ,adv,seen,ent,own⟩ ⟨tc,td⟩ ⟨sc,sd⟩ jW).1,eL false 7 aD (dO ⟨me,bJ,adv,seen,ent,own⟩ ⟨tc,td⟩ ⟨sc,sd⟩ jW).2.1,.bool (dO ⟨me,bJ,adv,seen,ent,own⟩ ⟨tc,td⟩ ⟨sc,sd⟩ jW).2.2]:=⟨_,rfl⟩
 rw[←hR]
 have nI:ent.length≤1000000:=by omega
 have hPl:=QY (.int .i64 me) (eL false 1 fJ bJ) (eL false 4 aH adv) (eL false 2 eID seen) (eL false 3 bL own) true ent tc td sc sd re nI
 have uI:=RL re ⟨tc,td⟩ ⟨sc,sd⟩
 unfold pcF
 rw[aM _ _ _ _ (by simp[t94])]
 simp[t94,aQ,gQ.none,e74]
 generalize hA:cH _ _ _ _ _=A
 obtain⟨v4,K,rfl,o4,x,_⟩:=pO (lo:=4) (jS ..) (by simp) (by simp) (by simp) (by simp;omega) (by decide) hA
 clear hA
 have a0:=x.get 0 (by decide)
 have a1:=x.get 1 (by decide)
 have a2:=x.get 2 (by decide)
 have a3:=x.get 3 (by decide)
 have q0:=x.lim
 have w0:=x.wf
 have n0:=x.le
 simp at a0 a1 a2 a3 q0
 have l0':0<K.n:=by omega
 obtain⟨H,hH⟩:∃ H,H=K.set 0 (.arr 31 6 [.agg [.int .i64 me,eL false 1 fJ bJ,eL false 4 aH adv,eL false 2 eID seen,v4,eL false 3 bL own]] (some 1)):=⟨_,rfl⟩
 have wH:WF H:=by rw[hH];exact w0.set
 have nH:H.n=K.n:=by rw[hH];rfl
 have lH:H.lim=0:=by rw[hH];exact q0
 have g0:H.get 0=some (.arr 31 6 [.agg [.int .i64 me,eL false 1 fJ bJ,eL false 4 aH adv,eL false 2 eID seen,v4,eL false 3 bL own]] (some 1)):=by rw[hH,bW w0 l0',if_pos rfl]
 have g1:H.get 1=some (.arr 24 2 [.agg [.int .i64 tc,.int .i64 td]] (some 1)):=by rw[hH,bW w0 l0',if_neg (by decide)];exact a1
 have g2:H.get 2=some (.arr 24 2 [.agg [.int .i64 sc,.int .i64 sd]] (some 1)):=by rw[hH,bW w0 l0',if_neg (by decide)];exact a2
 have g3:H.get 3=some (.arr 31 6 [.agg [.int .i64 0,.nsl,.nsl,.nsl,.nsl,.nsl]] (some 1)):=by rw[hH,bW w0 l0',if_neg (by decide)];exact a3
 have st4:=o4.aU
 have ec4:=o4.aF
 replace o4:Own 4 H v4 58 7 (ent.map aD):=by rw[hH];exact o4.bA w0 (by decide) l0'
 simp[a0,a1,a2,a3,q0,w0,l0',st4,ec4,turn]
 rw[←hH]
 clear hH
 have l3:3<H.n:=by omega
 have l0:0<H.n:=by omega
 have r1:resolve true H 199 v4=some (eL true 7 aD ent):=o4.resolve true (fun y _=>(cV y).1) (by decide)
 have r2:∀o',resolve false (H.set 3 o') 198 v4=some (eL false 7 aD ent):=fun o'=>(o4.bA wH (by decide) l3).resolve false (fun y _=>(cV y).1) (by decide)
 cases Kz:ent.find? (isE ⟨tc,td⟩ ⟨sc,sd⟩)with
 | none =>
  rw[Kz]at uI
  simp only at uI
  have MF:dO ⟨me,bJ,adv,seen,ent,own⟩ ⟨tc,td⟩ ⟨sc,sd⟩ jW=(⟨me,bJ,adv,seen,ent,own⟩,[],false):=by simp[dO,Kz]
  simp[r1,r2,Dl,hPl,uI,g0,g3,lH,wH,l3,turn,aL]
  simp[hR,MF,aQ,gQ.none,mZ]
 | some e =>
  rw[Kz]at uI
  simp only at uI
  obtain⟨GQ,hh2⟩:=uI
  obtain⟨i,hi⟩:∃ i,bG (fW ⟨tc,td⟩ ⟨sc,sd⟩) ent=i:=⟨_,rfl⟩
  rw[hi]at hh2 hPl
  have hilt:i<ent.length:=by
   by_cases h:i<ent.length
   ·exact h
   ·rw[List.getElem?_eq_none (by omega)]at hh2;cases hh2
  obtain⟨id,sp,cap,hv4,hg4,hl4,hlo4,Yz,Il⟩:=o4.toR.index (i:=i) (x:=aD e) (by simp[hh2]) .i64
  simp only[aD]at Il
  by_cases yP:e.jW=jW
  ·have hw:IntKind.i64.wrap ((i:Int)+1)=(i:Int)+1:=bC (by omega) (by omega)
   have OZ:=FJ re hh2 (List.find?_some Kz)
   obtain⟨v4',H',hD,m4,x2,_⟩:=ST 4 H v4 ent i o4 hilt nI wH (by omega)
   rw[OZ]at m4
   obtain⟨fl,GS⟩:∃ fl,(ent.filter fun x=>!isE ⟨tc,td⟩ ⟨sc,sd⟩ x)=fl:=⟨_,rfl⟩
   rw[GS]at m4
   have hfln:fl.length≤100000:=by rw[←GS];exact Nat.le_trans (List.length_filter_le ..) z4
   have hflp:∀x∈fl,bM x.pred:=fun x hx=>hq x (by rw[←GS]at hx;exact(List.mem_filter.1 hx).1)
   have b0:=x2.get 0 (by decide)
   have b1:=x2.get 1 (by decide)
   have b3:=x2.get 3 (by decide)
   have q2:=x2.lim
   have w2:=x2.wf
   have n2:=x2.le
   rw[g0]at b0
   rw[g1]at b1
   rw[g3]at b3
   rw[lH]at q2
   have Jr:0<H'.n:=by omega
   have h23:3<H'.n:=by omega
   have r4:=fun o o'=>((m4.bA (o:=o) w2 (by decide) Jr).bA (o:=o') w2.set (by decide) h23).resolve (n:=198) false (fun y _=>(cV y).1) (by decide)
   cases wM:e.up with
   | false =>
    have MF:dO ⟨me,bJ,adv,seen,ent,own⟩ ⟨tc,td⟩ ⟨sc,sd⟩ jW=(⟨me,bJ,adv,seen,fl,own⟩,[],false):=by simp[dO,Kz,yP,wM,GS]
    rw[wM]at Il
    simp[r1,Dl,hPl,GQ,Yz,hg4,Il,eq_true yP,g0,g3,lH,wH,l3,hw,hD,b0,b3,q2,w2,Jr,h23,m4.aU,m4.aF,r4,turn,aL]
    simp[hR,MF,aQ,gQ.none,mZ]
   | true =>
    have MF:dO ⟨me,bJ,adv,seen,ent,own⟩ ⟨tc,td⟩ ⟨sc,sd⟩ jW=(⟨me,bJ,adv,seen,(eH ⟨tc,td⟩ [] fl []).1,own⟩,(eH ⟨tc,td⟩ [] fl []).2,true):=by simp[dO,Kz,yP,wM,GS]
    rw[wM]at Il
    have st:=m4.aU
    have ec:=m4.aF
    cases m4 with
    | nil hv hx =>
     subst hv
     have hf0:fl=[]:=List.map_eq_nil_iff.1 hx
     subst hf0
     simp[r1,Dl,hPl,GQ,Yz,hg4,Il,eq_true yP,g0,g3,lH,wH,l3,hw,hD,b0,b3,q2,w2,Jr,h23,turn]
     rw[aO Ki.eq_1]
     simp[Eh,b0,b3,q2,w2,Jr,h23,turn,aL]
     simp[hR,MF,aQ,gQ.none,mZ,eH]
    | arr id2 sp2 cap2 hv hg hl hlo2 =>
     subst hv
     simp only[List.length_map]at hD st ec
     simp[r1,Dl,hPl,GQ,Yz,hg4,Il,eq_true yP,g0,g3,lH,wH,l3,hw,hD,b0,b3,q2,w2,Jr,h23,turn]
     generalize hF:upd _ 58 _=F
     have j0:¬id2=0:=by omega
     obtain⟨f1,K4,k1,k2,k3,c0,c3,o5,o9,cB,q4,n4,w4⟩:=l94 [] me bJ adv seen own tc td id2 fl.length (.arr 31 6 [.agg [.int .i64 0,.nsl,.nsl,.nsl,.nsl,.nsl]] (some 1)) fl [] [] F (by simp) hfln (by simp) (by simpa using hflp) (by rw[←hF];simp) (by rw[←hF];simp) (by rw[←hF];simp) (by rw[←hF];simp) (by rw[←hF];simp) (by rw[←hF];simp)
      (h:=H'.set 0 (.arr 31 6 [.agg [.int .i64 me,eL false 1 fJ bJ,eL false 4 aH adv,eL false 2 eID seen,.sl id2 7 0 fl.length,eL false 3 bL own]] (some 1))) (by simp[w2,Jr]) (by simp[w2,Jr,b1]) (by simp[w2,Jr,b3]) ⟨⟨sp2,cap2,by simp[w2,Jr,j0,hg]⟩,by exact hl,hlo2⟩ (by rw[←hF];simp;exact .nil rfl rfl) (by rw[←hF];simp;intro a b c e;cases e) q2 (by exact n2) w2.set
     rw[k1]
     clear hF k1
     have y0:0<K4.n:=by omega
     have y3:3<K4.n:=by omega
     have s5:=fun o'=>(o5.toR.bA (o:=o') w4 (by decide) y3).resolve (n:=198) false (fun y _=>(cV y).1) (by decide)
     have s9:=fun o'=>(o9.bA (o:=o') w4 (by decide) y3).resolve (n:=199) false (fun y _=>(cV y).1) (by decide)
     simp only[List.length_map,cB]at s5
     simp[Eh,k2,k3,c0,c3,q4,w4,y3,turn,-wG,s5,s9,aL]
     simp[hR,MF,aQ,gQ.none]
  ·have MF:dO ⟨me,bJ,adv,seen,ent,own⟩ ⟨tc,td⟩ ⟨sc,sd⟩ jW=(⟨me,bJ,adv,seen,ent,own⟩,[],false):=by simp[dO,Kz,yP]
   simp[r1,r2,Dl,hPl,GQ,Yz,hg4,Il,yP,g0,g3,lH,wH,l3,turn,aL]
   simp[hR,MF,aQ,gQ.none,mZ]
end Go.Dm.Tc
/-
What the reference's functions compute,part 8: an entry taken out (the loop).
-/
namespace Go.Dm.Tc
end Go.Dm.Tc
/-
What the reference's functions compute,part 9: an entry taken out.
-/
namespace Go.Dm.Tc
end Go.Dm.Tc
/-
What every broker keeps that calls Dc: plain laws (learned,forgotten,added,taken out).
-/
namespace Go.Dm.Tc
theorem EX{α:Type}(key:α→ID){l:List α}(h:eG (l.map key))(x:ID)(a:α):l.find? (fun b=>decide (key b=x))=some a↔a∈l∧key a=x:=by
 constructor
 ·intro hf
  exact⟨List.mem_of_find?_eq_some hf,by simpa using List.find?_some hf⟩
 ·rintro⟨hm,hk⟩
  cases hf:l.find? (fun b=>decide (key b=x))with
  | none=>exact absurd hk (by have:=List.find?_eq_none.1 hf a hm;simpa using this)
  | some b =>
   have hb:=List.mem_of_find?_eq_some hf
   have hkb:key b=x:=by simpa using List.find?_some hf
   have:b=a:=by
    by_cases e:b=a
    ·exact e
    ·exfalso
     unfold eG at h
     rw[List.pairwise_map]at h
     obtain⟨i,hi,rfl⟩:=List.mem_iff_getElem.1 hb
     obtain⟨j,hj,rfl⟩:=List.mem_iff_getElem.1 hm
     rcases Nat.lt_trichotomy i j with aY|he|aY
     ·have:=List.pairwise_iff_getElem.1 h i j hi hj aY
      rw[hkb,hk,iA]at this;omega
     ·subst he;exact e rfl
     ·have:=List.pairwise_iff_getElem.1 h j i hj hi aY
      rw[hkb,hk,iA]at this;omega
   rw[this]
theorem rJ{α:Type}(key:α→ID){l:List α}(x:ID):l.find? (fun b=>decide (key b=x))=none↔∀a∈l,key a≠x:=by
 rw[List.find?_eq_none]
 exact⟨fun h a ha=>by simpa using h a ha,fun h a ha=>by simpa using h a ha⟩
theorem nA{b:aG}(h:eG (b.aP.map (·.id))){x:ID}{a:bZ}:advOf b x=some a↔a∈b.aP∧a.id=x:=EX (fun a:bZ=>a.id) h x a
theorem B7{b:aG}{x:ID}:advOf b x=none↔∀a∈b.aP,a.id≠x:=rJ (fun a:bZ=>a.id) x
theorem fF(b:aG)(x:ID):dR b x=((advOf b x).getD pD).dC:=rfl
theorem mB{l:List aX}{t:ID}{p:aZ}:dS l t p=true↔∃ e∈l,e.tree=t∧e.up=true∧iJ e.pred p=true:=by
 unfold dS ofT
 rw[List.any_eq_true]
 constructor
 ·rintro⟨e,he,h⟩
  have:=List.mem_filter.1 he
  rw[Bool.and_eq_true]at h
  exact⟨e,this.1,by simpa using this.2,h.1,h.2⟩
 ·rintro⟨e,he,h1,h2,h3⟩
  exact⟨e,List.mem_filter.2 ⟨he,by simpa using h1⟩,by rw[h2,h3];rfl⟩
theorem kN{e x:aX}{l:List aX}:x∈zQ e l↔x=e∨x∈l:=by
 unfold zQ
 rw[List.mem_append,List.mem_cons]
 constructor
 ·rintro(h|h|h)
  ·exact .inr (List.mem_of_mem_take h)
  ·exact .inl h
  ·exact .inr (List.mem_of_mem_drop h)
 ·rintro(h|h)
  ·exact .inr (.inl h)
  ·rw[←List.take_append_drop (bG (fW e.tree e.sub) l) l,List.mem_append]at h
   exact h.elim .inl fun h=>.inr (.inr h)
theorem Tb(e:aX)(l:List aX):(zQ e l).length=l.length+1:=by
 unfold zQ
 rw[List.length_append,List.length_cons,List.length_take,List.length_drop]
 have:=hG (fW e.tree e.sub) l
 omega
theorem IF{t s:ID}{a:aX}(h1:¬fW t s a<0)(h2:¬(a.tree=t∧a.sub=s))(e:aX)(he:e.tree=t)(he2:e.sub=s):fW a.tree a.sub e<0:=by
 rw[Dq,kM,kM]at *
 rw[he,he2]
 rw[ID.ext',ID.ext']at h2
 rw[ID.ext']at *
 omega
theorem Ta{e:aX}{l:List aX}(h:fR l)(hn:∀x∈l,isE e.tree e.sub x=false):fR (zQ e l):=by
 unfold fR zQ
 rw[List.pairwise_append,List.pairwise_cons]
 generalize hk:bG (fW e.tree e.sub) l=k
 have pS:∀b∈l.take k,fW e.tree e.sub b<0:=by
  intro b hb
  obtain⟨i,hi,rfl⟩:=List.mem_iff_getElem.1 hb
  rw[List.getElem_take]
  rw[List.length_take]at hi
  have:=List.not_of_lt_findIdx (p:=fun x=>!decide (fW e.tree e.sub x<0)) (xs:=l) (i:=i) (by unfold bG at hk;omega)
  simpa using this
 have jP:∀b∈l.drop k,fW b.tree b.sub e<0:=by
  intro b hb
  obtain⟨i,hi,rfl⟩:=List.mem_iff_getElem.1 hb
  rw[List.length_drop]at hi
  rw[List.getElem_drop]
  have hkl:k<l.length:=by omega
  have h1:¬fW e.tree e.sub l[k]<0:=by
   have:=List.findIdx_getElem (p:=fun x=>!decide (fW e.tree e.sub x<0)) (xs:=l) (w:=by unfold bG at hk;omega)
   have qD:List.findIdx (fun x=>!decide (fW e.tree e.sub x<0)) l=k:=hk
   simp only[qD]at this
   simpa using this
  have h2:¬fW e.tree e.sub l[k+i]<0:=fun hc=>h1 (MC h _ _ k (k+i) hkl (by omega) (by omega) hc)
  refine IF h2 ?_ e rfl rfl
  have:=hn l[k+i] (List.getElem_mem _)
  simpa[isE]using this
 refine⟨h.sublist (List.take_sublist ..),⟨fun b hb=>jP b hb,h.sublist (List.drop_sublist ..)⟩,?_⟩
 intro x hx y hy
 rcases List.mem_cons.1 hy with rfl|hy
 ·exact pS x hx
 ·exact xO (pS x hx) (by have:=jP y hy;omega)
structure eR(b:aG):Prop where
 bJ:kY (fun x y=>decide (x<y)) b.bJ=true
 loc:∀x∈b.bJ,0≤x
 ra:eG (b.aP.map (·.id))
 rs:eG b.seen
 ro:eG (b.cW.map (·.id))
 re:fR b.entries
 sub:∀a∈b.aP,a.id∈b.seen
 par:∀a∈b.aP,nQ b a.dC=true
 pa:∀a∈b.aP,bM a.pred
 po:∀o∈b.cW,bM o.pred
 ent:∀e∈b.entries,lP b e=true
 pe:∀e∈b.entries,bM e.pred
 tight:Vy b=true
structure SzK(b:aG)(n:Nat):Prop where
 bJ:b.bJ.length≤1000
 adv:b.aP.length≤n
 seen:b.seen.length≤n
 own:b.cW.length≤n
 ent:b.entries.length≤n*n
theorem SzK.sized{b:aG}{n:Nat}(h:SzK b n)(hn:n≤300):mK b:=by
 have:=Nat.mul_le_mul hn hn
 obtain⟨h1,h2,h3,h4,h5⟩:=h
 exact⟨by omega,by omega,by omega,by omega,by omega⟩
theorem SzK.mono{b:aG}{n m:Nat}(h:SzK b n)(hn:n≤m):SzK b m:=by
 have:=Nat.mul_le_mul hn hn
 obtain⟨h1,h2,h3,h4,h5⟩:=h
 exact⟨h1,by omega,by omega,by omega,by omega⟩
theorem eR.asked{b:aG}(h:eR b):GH b:=⟨fun e he=>(h.pe e he).unlike,fun e he=>Nat.le_trans (h.pe e he).len (by decide)⟩
theorem eR.right{b:aG}(h:eR b):Na b=true:=by
 unfold Na Bd
 rw[h.bJ,pJ (key:=fun a:bZ=>a.id) h.ra,pJ (key:=fun a:gT=>a.id) h.ro,Ks h.re,show kY (fun x y=>qC x y) b.seen=true from pJ (key:=fun a:ID=>a) (by simpa using h.rs)]
 have h1:(b.aP.any fun a=>!uU b a)=false:=by
  rw[List.any_eq_false]
  intro a ha
  simp[uU,h.sub a ha,h.par a ha,(h.pa a ha).right]
 have h2:(b.entries.any fun e=>!lP b e)=false:=by
  rw[List.any_eq_false]
  intro e he
  simp[h.ent e he]
 have h3:(b.cW.any fun o=>!rF o.pred)=false:=by
  rw[List.any_eq_false]
  intro o ho
  simp[(h.po o ho).right]
 rw[h1,h2,h3]
 rfl
theorem fM{b:aG}{e:aX}:lP b e=true↔∃ a,advOf b e.tree=some a∧nQ b e.jW=true∧(e.jW=a.dC→a.dC=-1)∧(e.up=true→a.dC≠-1)∧rF e.pred=true:=by
 unfold lP advOf
 cases b.aP.find? (fun a=>a.id=e.tree)with
 | none=>simp
 | some a =>
  simp only[Option.some.injEq,exists_eq_left',Bool.and_eq_true,Bool.or_eq_true,Bool.not_eq_true',Bool.and_eq_false_iff,decide_eq_true_eq,decide_eq_false_iff_not]
  constructor
  ·rintro⟨⟨⟨h1,h2⟩,h3⟩,h4⟩
   exact⟨h1,fun q=>h2.resolve_left (fun hn=>hn q),fun q=>h3.resolve_left (by rw[q];decide),h4⟩
  ·rintro⟨h1,h2,h3,h4⟩
   refine⟨⟨⟨h1,?_⟩,?_⟩,h4⟩
   ·by_cases q:e.jW=a.dC
    ·exact .inr (h2 q)
    ·exact .inl q
   ·cases q:e.up with
    | false=>exact .inl rfl
    | true=>exact .inr (h3 q)
theorem jI{b:aG}:Vy b=true↔∀e∈b.entries,e.up=true∨dR b e.tree=-1∨dS b.entries e.tree e.pred=true:=by
 unfold Vy
 rw[List.all_eq_true]
 simp only[AJ,Bool.or_eq_true,decide_eq_true_eq,or_assoc]
theorem xX{b b':aG}(h:b'.bJ=b.bJ)(n:Int):nQ b' n=nQ b n:=by unfold nQ;rw[h]
theorem rG{b b':aG}{e:aX}(h:b'.bJ=b.bJ)(ha:advOf b' e.tree=advOf b e.tree):lP b' e=lP b e:=by
 rw[Bool.eq_iff_iff,fM,fM,ha]
 simp only[xX h]
theorem eR.start{me:Int}{bJ:List Int}(hn:kY (fun x y=>decide (x<y)) bJ=true)(hl:∀x∈bJ,0≤x):eR ⟨me,bJ,[],[],[],[]⟩ :=
 ⟨hn,hl,.nil,.nil,.nil,.nil,fun a h=>(by cases h),fun a h=>(by cases h),fun a h=>(by cases h),fun a h=>(by cases h),fun a h=>(by cases h),fun a h=>(by cases h),rfl⟩
theorem SzK.start{me:Int}{bJ:List Int}(hn:bJ.length≤1000):SzK ⟨me,bJ,[],[],[],[]⟩ 0:=⟨hn,Nat.le_refl _,Nat.le_refl _,Nat.le_refl _,Nat.le_refl _⟩
theorem Vh{b:aG}(h:eR b)(a:bZ)(hn:a.id ∉ b.seen)(x:ID):advOf (eQ b a).1 x=if a.id=x then some a else advOf b x:=by
 have Df:∀c∈b.aP,c.id≠a.id:=fun c hc e=>hn (by rw[←e];exact h.sub c hc)
 have hr:eG ((eQ b a).1.aP.map (·.id)):=by
  unfold eQ;rw[if_neg hn]
  exact mV (fun a:bZ=>a.id) a h.ra Df
 have hm:∀c,c∈(eQ b a).1.aP↔c=a∨c∈b.aP:=by
  intro c
  unfold eQ;rw[if_neg hn]
  exact qR (fun a:bZ=>a.id) a b.aP c
 by_cases e:a.id=x
 ·rw[if_pos e,nA hr,hm];exact⟨.inl rfl,e⟩
 ·rw[if_neg e]
  cases hq:advOf b x with
  | none =>
   rw[B7]at hq ⊢
   intro c hc
   rcases(hm c).1 hc with rfl|hc
   ·exact e
   ·exact hq c hc
  | some c =>
   rw[nA h.ra]at hq
   rw[nA hr,hm]
   exact⟨.inr hq.1,hq.2⟩
theorem eR.learn{b:aG}(h:eR b){a:bZ}(hp:nQ b a.dC=true)(hr:bM a.pred):eR (eQ b a).1:=by
 by_cases hn:a.id∈b.seen
 ·unfold eQ;rw[if_pos hn];exact h
 ·have ho:=Vh h a hn
  have hE:(eQ b a).1.entries=b.entries:=by unfold eQ;rw[if_neg hn]
  have hN:(eQ b a).1.bJ=b.bJ:=by unfold eQ;rw[if_neg hn]
  have hO:(eQ b a).1.cW=b.cW:=by unfold eQ;rw[if_neg hn]
  have hA:(eQ b a).1.aP=oN (fun a=>a.id) a b.aP:=by unfold eQ;rw[if_neg hn]
  have hS:(eQ b a).1.seen=oN (fun x=>x) a.id b.seen:=by unfold eQ;rw[if_neg hn]
  have hother:∀e∈b.entries,advOf (eQ b a).1 e.tree=advOf b e.tree:=by
   intro e he
   rw[ho,if_neg]
   intro hc
   obtain⟨c,Jq,_⟩:=fM.1 (h.ent e he)
   rw[nA h.ra]at Jq
   exact hn (by rw[hc,←Jq.2];exact h.sub c Jq.1)
  refine⟨by rw[hN];exact h.bJ,by rw[hN];exact h.loc,?_,?_,by rw[hO];exact h.ro,by rw[hE];exact h.re,?_,?_,?_,by rw[hO];exact h.po,?_,by rw[hE];exact h.pe,?_⟩
  ·rw[hA];exact mV (fun a:bZ=>a.id) a h.ra fun c hc e=>hn (by rw[←e];exact h.sub c hc)
  ·rw[hS]
   have:=mV (fun x:ID=>x) a.id (l:=b.seen) (by simpa using h.rs) (fun c hc e=>hn (by rw[←e];exact hc))
   simpa using this
  ·intro c hc
   rw[hA,qR]at hc
   rw[hS,qR]
   rcases hc with rfl|hc
   ·exact .inl rfl
   ·exact .inr (h.sub c hc)
  ·intro c hc
   rw[xX hN]
   rw[hA,qR]at hc
   rcases hc with rfl|hc
   ·exact hp
   ·exact h.par c hc
  ·intro c hc
   rw[hA,qR]at hc
   rcases hc with rfl|hc
   ·exact hr
   ·exact h.pa c hc
  ·intro e he
   rw[hE]at he
   rw[rG hN (hother e he)];exact h.ent e he
  ·rw[jI,hE]
   intro e he
   rw[fF,hother e he,←fF]
   exact jI.1 h.tight e he
theorem SzK.learn{b:aG}{n:Nat}(h:SzK b n)(a:bZ):SzK (eQ b a).1 (n+1):=by
 have h':=h.mono (Nat.le_succ n)
 unfold eQ
 split
 ·exact h'
 ·obtain⟨h1,h2,h3,h4,h5⟩:=h'
  exact⟨h1,by simp only[Du];have:=h.adv;omega,by simp only[Du];have:=h.seen;omega,h4,h5⟩
theorem xW{b:aG}{e:aX}:mS b e=true↔∃ a,advOf b e.tree=some a∧(∀x∈b.entries,isE e.tree e.sub x=false)∧(e.jW=a.dC→a.dC=-1):=by
 unfold mS advOf
 cases b.aP.find? (fun a=>a.id=e.tree)with
 | none=>simp
 | some a =>
  simp only[Option.some.injEq,exists_eq_left',Bool.and_eq_true,Bool.not_eq_true',Bool.and_eq_false_iff,List.any_eq_false,Bool.not_eq_true,decide_eq_false_iff_not,Bool.not_eq_false',decide_eq_true_eq]
  refine and_congr Iff.rfl ⟨fun h q=>h.resolve_left (fun hn=>hn q),fun h=>?_⟩
  by_cases q:e.jW=a.dC
  ·exact .inr (h q)
  ·exact .inl q
theorem Ai{l l':List aX}{t:ID}{p:aZ}(h:∀e∈l,e∈l')(hc:dS l t p=true):dS l' t p=true:=by
 rw[mB]at *
 obtain⟨e,he,h2⟩:=hc
 exact⟨e,h e he,h2⟩
theorem eR.add{b:aG}(h:eR b){e:aX}(hl:nQ b e.jW=true)(hp:bM e.pred):eR (eS b e).1:=by
 by_cases hm:mS b e=true
 ·obtain⟨a,ha,yO,ML⟩:=xW.1 hm
  unfold eS
  rw[if_pos hm]
  have uH:dR b e.tree=a.dC:=by rw[fF,ha];rfl
  refine⟨h.bJ,h.loc,h.ra,h.rs,h.ro,?_,h.sub,h.par,h.pa,h.po,?_,?_,?_⟩
  ·exact Ta (e:={e with up:=wT b e}) h.re yO
  ·intro x hx
   rw[kN]at hx
   have hs:∀y,lP {b with entries:=zQ {e with up:=wT b e} b.entries} y=lP b y:=fun y=>rG rfl rfl
   rw[hs]
   rcases hx with rfl|hx
   ·rw[fM]
    refine⟨a,ha,hl,ML,?_,hp.right⟩
    intro hu KG
    simp only[wT,uH,KG]at hu
    simp at hu
   ·exact h.ent x hx
  ·intro x hx
   rw[kN]at hx
   rcases hx with rfl|hx
   ·exact hp
   ·exact h.pe x hx
  ·rw[jI]
   intro x hx
   have hs:∀y,dR {b with entries:=zQ {e with up:=wT b e} b.entries} y=dR b y:=fun y=>rfl
   rw[hs]
   have Im:=hx
   rw[kN]at hx
   rcases hx with rfl|hx
   ·by_cases KG:a.dC=-1
    ·exact .inr (.inl (by rw[uH,KG]))
    ·cases T7:dS b.entries e.tree e.pred with
     | true=>exact .inr (.inr (Ai (fun y hy=>kN.2 (.inr hy)) T7))
     | false=>left;simp[wT,uH,KG,T7]
   ·rcases jI.1 h.tight x hx with h1|h1|h1
    ·exact .inl h1
    ·exact .inr (.inl h1)
    ·exact .inr (.inr (Ai (fun y hy=>kN.2 (.inr hy)) h1))
 ·unfold eS
  rw[if_neg hm];exact h
inductive fB(t:ID):List aX→List aX→Prop where
 | nil:fB t [] []
 | keep (e:aX) {l l':List aX} (h:fB t l l'):fB t (e::l) (e::l')
 | up (e:aX) {l l':List aX} (ht:e.tree=t) (hu:e.up=false) (h:fB t l l'):fB t (e::l) ({e with up:=true}::l')
theorem fB.refl(t:ID):∀l,fB t l l
 | []=>.nil
 | e::l=>.keep e (fB.refl t l)
theorem fB.append{t:ID}{a a' b b':List aX}(h:fB t a a')(k:fB t b b'):fB t (a++b) (a'++b'):=by
 induction h with
 | nil=>exact k
 | keep e _ ih=>exact .keep e ih
 | up e ht hu _ ih=>exact .up e ht hu ih
theorem fB.len{t:ID}{a a':List aX}(h:fB t a a'):a'.length=a.length:=by
 induction h with
 | nil=>rfl
 | keep e _ ih=>simp[ih]
 | up e ht hu _ ih=>simp[ih]
theorem fB.mem{t:ID}{a a':List aX}(h:fB t a a'){x:aX}(hx:x∈a'):x∈a∨∃ e∈a,e.tree=t∧e.up=false∧x={e with up:=true}:=by
 induction h with
 | nil=>cases hx
 | keep e _ ih =>
  rcases List.mem_cons.1 hx with rfl|hx
  ·exact .inl (List.mem_cons_self ..)
  ·rcases ih hx with h|⟨y,hy,h⟩
   ·exact .inl (List.mem_cons_of_mem _ h)
   ·exact .inr ⟨y,List.mem_cons_of_mem _ hy,h⟩
 | up e ht hu _ ih =>
  rcases List.mem_cons.1 hx with rfl|hx
  ·exact .inr ⟨e,List.mem_cons_self ..,ht,hu,rfl⟩
  ·rcases ih hx with h|⟨y,hy,h⟩
   ·exact .inl (List.mem_cons_of_mem _ h)
   ·exact .inr ⟨y,List.mem_cons_of_mem _ hy,h⟩
theorem fB.of_mem{t:ID}{a a':List aX}(h:fB t a a'){x:aX}(hx:x∈a):x∈a'∨(x.tree=t∧x.up=false∧{x with up:=true}∈a'):=by
 induction h with
 | nil=>cases hx
 | keep e _ ih =>
  rcases List.mem_cons.1 hx with rfl|hx
  ·exact .inl (List.mem_cons_self ..)
  ·rcases ih hx with h|⟨h1,h2,h3⟩
   ·exact .inl (List.mem_cons_of_mem _ h)
   ·exact .inr ⟨h1,h2,List.mem_cons_of_mem _ h3⟩
 | up e ht hu _ ih =>
  rcases List.mem_cons.1 hx with rfl|hx
  ·exact .inr ⟨ht,hu,List.mem_cons_self ..⟩
  ·rcases ih hx with h|⟨h1,h2,h3⟩
   ·exact .inl (List.mem_cons_of_mem _ h)
   ·exact .inr ⟨h1,h2,List.mem_cons_of_mem _ h3⟩
theorem fB.rising{t:ID}{a a':List aX}(h:fB t a a')(hr:fR a):fR a':=by
 induction h with
 | nil=>exact hr
 | keep e h ih =>
  unfold fR at *
  rw[List.pairwise_cons]at *
  refine⟨fun x hx=>?_,ih hr.2⟩
  rcases h.mem hx with hx|⟨y,hy,_,_,rfl⟩
  ·exact hr.1 x hx
  ·exact hr.1 y hy
 | up e ht hu h ih =>
  unfold fR at *
  rw[List.pairwise_cons]at *
  refine⟨fun x hx=>?_,ih hr.2⟩
  have:∀t s,fW t s {e with up:=true}=fW t s e:=fun t s=>rfl
  rw[this]
  rcases h.mem hx with hx|⟨y,hy,_,_,rfl⟩
  ·exact hr.1 x hx
  ·exact hr.1 y hy
theorem fB.covered{t:ID}{a a':List aX}(h:fB t a a'){t':ID}{p:aZ}(hc:dS a t' p=true):dS a' t' p=true:=by
 rw[mB]at *
 obtain⟨e,he,h1,h2,h3⟩:=hc
 rcases h.of_mem he with hx|⟨_,hx,_⟩
 ·exact⟨e,hx,h1,h2,h3⟩
 ·rw[h2]at hx;cases hx
theorem Lv(t:ID):∀(rest done kK:List aX),∃ r',(eH t done rest kK).1=done++r'∧fB t rest r'∧(∀x∈r',x.tree=t→x.up=true∨dS (done++r') t x.pred=true) ∧
  ∃ u',(eH t done rest kK).2=kK++u'∧∀x∈u',x∈r'∧x.tree=t∧x.up=true∧{x with up:=false}∈rest∧dS (done++rest) t x.pred=false:=by
 intro rest
 induction rest with
 | nil=>intro done kK;exact⟨[],by simp[eH],.nil,(fun x hx=>by cases hx),[],by simp[eH],(fun x hx=>by cases hx)⟩
 | cons e rest ih =>
  intro done kK
  unfold eH
  by_cases hc:e.tree=t∧e.up=false∧dS (done++e::rest) t e.pred=false
  ·rw[if_pos hc]
   obtain⟨r',h1,h2,h3,u',h4,h5⟩:=ih (done++[{e with up:=true}]) (kK++[{e with up:=true}])
   refine⟨{e with up:=true}::r',by rw[h1];simp,.up e hc.1 hc.2.1 h2,?_,{e with up:=true}::u',by rw[h4];simp,?_⟩
   ·intro x hx ht
    rcases List.mem_cons.1 hx with rfl|hx
    ·exact .inl rfl
    ·have:=h3 x hx ht
     simpa using this
   ·intro x hx
    rcases List.mem_cons.1 hx with rfl|hx
    ·have he:({{e with up:=true} with up:=false}:aX)=e:=by obtain⟨a1,a2,a3,a4,a5⟩:=e;simp only at hc;rw[hc.2.1]
     exact⟨List.mem_cons_self ..,hc.1,rfl,by rw[he];exact List.mem_cons_self ..,hc.2.2⟩
    ·obtain⟨k1,k2,k3,k4,k5⟩:=h5 x hx
     refine⟨List.mem_cons_of_mem _ k1,k2,k3,List.mem_cons_of_mem _ k4,?_⟩
     have hR:fB t (done++e::rest) (done++[{e with up:=true}]++rest):=by
      rw[List.append_assoc]
      exact(fB.refl t done).append (.up e hc.1 hc.2.1 (.refl t rest))
     cases hq:dS (done++e::rest) t x.pred with
     | false=>rfl
     | true=>rw[hR.covered hq]at k5;cases k5
  ·rw[if_neg hc]
   obtain⟨r',h1,h2,h3,u',h4,h5⟩:=ih (done++[e]) kK
   refine⟨e::r',by rw[h1];simp,.keep e h2,?_,u',h4,?_⟩
   ·intro x hx ht
    rcases List.mem_cons.1 hx with rfl|hx
    ·cases hu:x.up with
     | true=>exact .inl rfl
     | false =>
      cases hq:dS (done++x::rest) t x.pred with
      | true=>exact .inr (((fB.refl t done).append (.keep x h2)).covered hq)
      | false=>exact absurd ⟨ht,hu,hq⟩ hc
    ·have:=h3 x hx ht
     simpa using this
   ·intro x hx
    obtain⟨k1,k2,k3,k4,k5⟩:=h5 x hx
    exact⟨List.mem_cons_of_mem _ k1,k2,k3,List.mem_cons_of_mem _ k4,by simpa using k5⟩
theorem mN{b:aG}(h:eR b)(t s:ID)(q:Int) :
  ((dO b t s q)=(b,[],false)∧∀e∈b.entries,isE t s e=true→e.jW≠q) ∨
  (∃ e∈b.entries,isE t s e=true∧e.jW=q∧e.up=false∧dO b t s q=({b with entries:=b.entries.filter fun x=>!isE t s x},[],false)) ∨
  (∃ e∈b.entries,isE t s e=true∧e.jW=q∧e.up=true∧∃ r' u',dO b t s q=({b with entries:=r'},u',true)∧fB t (b.entries.filter fun x=>!isE t s x) r' ∧
   (∀x∈r',x.tree=t→x.up=true∨dS r' t x.pred=true)∧∀x∈u',x∈r'∧x.tree=t∧x.up=true∧{x with up:=false}∈b.entries.filter (fun x=>!isE t s x)∧dS (b.entries.filter fun x=>!isE t s x) t x.pred=false):=by
 unfold dO
 cases hf:b.entries.find? (isE t s)with
 | none =>
  left
  refine⟨rfl,fun e he hi=>?_⟩
  have:=List.find?_eq_none.1 hf e he
  exact absurd hi this
 | some e =>
  have he:=List.mem_of_find?_eq_some hf
  have hi:=List.find?_some hf
  by_cases hq:e.jW=q
  ·simp only[if_pos hq]
   cases hu:e.up with
   | false =>
    right;left
    exact⟨e,he,hi,hq,hu,by simp⟩
   | true =>
    right;right
    obtain⟨r',h1,h2,h3,u',h4,h5⟩:=Lv t (b.entries.filter fun x=>!isE t s x) [] []
    refine⟨e,he,hi,hq,hu,r',u',by simp[h1,h4],h2,by simpa using h3,by simpa using h5⟩
  ·left
   refine⟨by simp only[if_neg hq],fun x hx Yz=>?_⟩
   have hkey:x=e:=by
    by_cases hxe:x=e
    ·exact hxe
    ·exfalso
     have k1:x.tree=t∧x.sub=s:=by simpa[isE]using Yz
     have k2:e.tree=t∧e.sub=s:=by simpa[isE]using hi
     obtain⟨i,nG,rfl⟩:=List.mem_iff_getElem.1 hx
     obtain⟨j,KK,rfl⟩:=List.mem_iff_getElem.1 he
     rcases Nat.lt_trichotomy i j with aY|he|aY
     ·have:=List.pairwise_iff_getElem.1 h.re i j nG KK aY
      rw[k2.1,k2.2,kU.2 k1]at this;omega
     ·subst he;exact hxe rfl
     ·have:=List.pairwise_iff_getElem.1 h.re j i KK nG aY
      rw[k1.1,k1.2,kU.2 k2]at this;omega
   rw[hkey];exact hq
theorem eR.entries{b b':aG}(h:eR b)(hb:b'={b with entries:=b'.entries})(hre:fR b'.entries)(he:∀e∈b'.entries,∃ d∈b.entries,e.tree=d.tree∧e.pred=d.pred∧e.jW=d.jW∧(e.up=true→dR b e.tree≠-1))
  (ht:∀e∈b'.entries,e.up=true∨dR b e.tree=-1∨dS b'.entries e.tree e.pred=true):eR b':=by
 have hA:b'.aP=b.aP:=by rw[hb]
 have hN:b'.bJ=b.bJ:=by rw[hb]
 have hS:b'.seen=b.seen:=by rw[hb]
 have hO:b'.cW=b.cW:=by rw[hb]
 have ho:∀x,advOf b' x=advOf b x:=fun x=>by unfold advOf;rw[hA]
 refine⟨by rw[hN];exact h.bJ,by rw[hN];exact h.loc,by rw[hA];exact h.ra,by rw[hS];exact h.rs,by rw[hO];exact h.ro,hre,by rw[hA,hS];exact h.sub,?_,by rw[hA];exact h.pa,by rw[hO];exact h.po,?_,?_,?_⟩
 ·intro a ha;rw[xX hN];rw[hA]at ha;exact h.par a ha
 ·intro e hm
  obtain⟨d,hd,k1,k2,k3,k4⟩:=he e hm
  rw[rG hN (ho _),fM]
  obtain⟨a,a1,a2,a3,a4,a5⟩:=fM.1 (h.ent d hd)
  refine⟨a,by rw[k1];exact a1,by rw[k3];exact a2,by rw[k3];exact a3,fun hu=>?_,by rw[k2];exact a5⟩
  have:=k4 hu
  rw[fF,k1,a1]at this
  exact this
 ·intro e hm
  obtain⟨d,hd,_,k2,_⟩:=he e hm
  rw[k2];exact h.pe d hd
 ·rw[jI]
  intro e hm
  have:dR b' e.tree=dR b e.tree:=by rw[fF,ho,←fF]
  rw[this]
  exact ht e hm
theorem eR.up{b:aG}(h:eR b){e:aX}(he:e∈b.entries)(hu:e.up=true):dR b e.tree≠-1:=by
 obtain⟨a,a1,_,_,a4,_⟩:=fM.1 (h.ent e he)
 rw[fF,a1]
 exact a4 hu
theorem eR.take{b:aG}(h:eR b)(t s:ID)(q:Int):eR (dO b t s q).1:=by
 have De:∀x∈b.entries.filter (fun x=>!isE t s x),x∈b.entries:=fun x hx=>(List.mem_filter.1 hx).1
 have hrf:fR (b.entries.filter fun x=>!isE t s x):=h.re.sublist (List.filter_sublist ..)
 rcases mN h t s q with⟨hc,_⟩|⟨e,he,hi,_,hu,hc⟩|⟨e,he,hi,_,hu,r',u',hc,hR,htt,_⟩
 ·rw[hc];exact h
 ·rw[hc]
  refine h.entries rfl hrf ?_ ?_
  ·intro x hx
   exact⟨x,De x hx,rfl,rfl,rfl,fun hux=>h.up (De x hx) hux⟩
  ·intro x hx
   rcases jI.1 h.tight x (De x hx)with h1|h1|h1
   ·exact .inl h1
   ·exact .inr (.inl h1)
   ·refine .inr (.inr ?_)
    rw[mB]at *
    obtain⟨d,hd,k1,k2,k3⟩:=h1
    refine⟨d,List.mem_filter.2 ⟨hd,?_⟩,k1,k2,k3⟩
    cases eK:isE t s d with
    | false=>rfl
    | true =>
     exfalso
     have q1:d.tree=t∧d.sub=s:=by simpa[isE]using eK
     have q2:e.tree=t∧e.sub=s:=by simpa[isE]using hi
     have:d=e:=by
      by_cases hde:d=e
      ·exact hde
      ·exfalso
       obtain⟨i,nG,rfl⟩:=List.mem_iff_getElem.1 hd
       obtain⟨j,KK,rfl⟩:=List.mem_iff_getElem.1 he
       rcases Nat.lt_trichotomy i j with aY|Oh|aY
       ·have:=List.pairwise_iff_getElem.1 h.re i j nG KK aY
        rw[q2.1,q2.2,kU.2 q1]at this;omega
       ·subst Oh;exact hde rfl
       ·have:=List.pairwise_iff_getElem.1 h.re j i KK nG aY
        rw[q1.1,q1.2,kU.2 q2]at this;omega
     rw[this,hu]at k2;cases k2
 ·have hpt:dR b t≠-1:=by
   have:=h.up he hu
   have q2:e.tree=t∧e.sub=s:=by simpa[isE]using hi
   rw[q2.1]at this;exact this
  rw[hc]
  refine h.entries rfl (hR.rising hrf) ?_ ?_
  ·intro x hx
   rcases hR.mem hx with hx|⟨y,hy,h1,h2,rfl⟩
   ·exact⟨x,De x hx,rfl,rfl,rfl,fun hux=>h.up (De x hx) hux⟩
   ·exact⟨y,De y hy,rfl,rfl,rfl,fun _=>by rw[h1];exact hpt⟩
  ·intro x hx
   by_cases hxt:x.tree=t
   ·rcases htt x hx hxt with k|k
    ·exact .inl k
    ·exact .inr (.inr (by rw[hxt];exact k))
   ·have Im:x∈b.entries.filter fun x=>!isE t s x:=by
     rcases hR.mem hx with hx|⟨y,hy,h1,h2,rfl⟩
     ·exact hx
     ·exact absurd h1 hxt
    rcases jI.1 h.tight x (De x Im)with h1|h1|h1
    ·exact .inl h1
    ·exact .inr (.inl h1)
    ·refine .inr (.inr (hR.covered ?_))
     rw[mB]at *
     obtain⟨d,hd,k1,k2,k3⟩:=h1
     refine⟨d,List.mem_filter.2 ⟨hd,?_⟩,k1,k2,k3⟩
     have:¬(d.tree=t∧d.sub=s):=fun hh=>hxt (by rw[←k1];exact hh.1)
     simp[isE,this]
theorem AR{b:aG}(h:eR b)(t s:ID)(q:Int):(dO b t s q).1.entries.length≤b.entries.length:=by
 rcases mN h t s q with⟨hc,_⟩|⟨e,_,_,_,_,hc⟩|⟨e,_,_,_,_,r',u',hc,hR,_⟩
 ·rw[hc];exact Nat.le_refl _
 ·rw[hc];exact List.length_filter_le ..
 ·rw[hc]
  show r'.length≤_
  rw[hR.len];exact List.length_filter_le ..
theorem Au(b:aG)(t s:ID)(q:Int):(dO b t s q).1={b with entries:=(dO b t s q).1.entries}:=by
 unfold dO
 split
 ·rfl
 ·split
  ·split<;>rfl
  ·rfl
theorem Ic(b:aG)(e:aX):(eS b e).1={b with entries:=(eS b e).1.entries}:=by
 unfold eS
 split<;>rfl
theorem LT(b:aG)(e:aX):(eS b e).1.entries.length≤b.entries.length+1:=by
 unfold eS
 split
 ·simp only[Tb];exact Nat.le_refl _
 ·exact Nat.le_succ _
theorem SzK.take{b:aG}{n:Nat}(h:SzK b n)(hi:eR b)(t s:ID)(q:Int):SzK (dO b t s q).1 n:=by
 have h1:=AR hi t s q
 rw[Au]at h1 ⊢
 obtain⟨a1,a2,a3,a4,a5⟩:=h
 exact⟨a1,a2,a3,a4,Nat.le_trans h1 a5⟩
theorem SzK.add{b:aG}{n:Nat}(h:SzK b n)(e:aX):SzK (eS b e).1 (n+1):=by
 have h1:=LT b e
 rw[Ic]at h1 ⊢
 obtain⟨a1,a2,a3,a4,a5⟩:=h
 have:(n+1)*(n+1)=n*n+n+n+1:=by rw[Nat.add_mul,Nat.mul_add];omega
 exact⟨a1,Nat.le_succ_of_le a2,Nat.le_succ_of_le a3,Nat.le_succ_of_le a4,by simp only at h1 ⊢;omega⟩
end Go.Dm.Tc
/-
Brokers as one datum: what the machine's steps do to it;what functions answer of a broker that calls Dc.
-/
namespace Go.Dm.Tc
theorem PW(t:gQ)(b:aG):DV.agg (fQ t b)=aQ t b:=_root_.id rfl
theorem V9(sz:Nat)(t:gQ)(b:aG):aF sz (aQ t b)=fQ t b:=_root_.id rfl
theorem PV(t:gQ)(b:aG):(fQ t b).length=6:=_root_.id rfl
theorem LQ(t:gQ)(b:aG):(fQ t b).take 6=fQ t b:=_root_.id rfl
theorem WB(t:gQ)(b:aG):(fQ t b)[0]?=some (.int .i64 b.me):=_root_.id rfl
theorem WA(t:gQ)(b:aG):(fQ t b)[1]?=some (eL t.bJ 1 fJ b.bJ):=_root_.id rfl
theorem VZ(t:gQ)(b:aG):(fQ t b)[2]?=some (eL t.aP 4 aH b.aP):=_root_.id rfl
theorem VY(t:gQ)(b:aG):(fQ t b)[3]?=some (eL t.seen 2 eID b.seen):=_root_.id rfl
theorem VX(t:gQ)(b:aG):(fQ t b)[4]?=some (eL t.entries 7 aD b.entries):=_root_.id rfl
theorem VW(t:gQ)(b:aG):(fQ t b)[5]?=some (eL t.cW 3 bL b.cW):=_root_.id rfl
theorem RX(t:gQ)(b:aG)(h:0<(fQ t b).length):(fQ t b)[0]=.int .i64 b.me:=_root_.id rfl
theorem RW(t:gQ)(b:aG)(h:1<(fQ t b).length):(fQ t b)[1]=eL t.bJ 1 fJ b.bJ:=_root_.id rfl
theorem RV(t:gQ)(b:aG)(h:2<(fQ t b).length):(fQ t b)[2]=eL t.aP 4 aH b.aP:=_root_.id rfl
theorem RU(t:gQ)(b:aG)(h:3<(fQ t b).length):(fQ t b)[3]=eL t.seen 2 eID b.seen:=_root_.id rfl
theorem RT(t:gQ)(b:aG)(h:4<(fQ t b).length):(fQ t b)[4]=eL t.entries 7 aD b.entries:=_root_.id rfl
theorem RS(t:gQ)(b:aG)(h:5<(fQ t b).length):(fQ t b)[5]=eL t.cW 3 bL b.cW:=_root_.id rfl
theorem Qq(t:gQ)(b:aG):aU 6 (aQ t b)=true:=_root_.id rfl
theorem OB(tg:Bool)(h:aA)(n:Nat)(t:gQ)(b:aG):resolve tg h (n+2) (aQ t b)=some (aQ t b):=by
 simp[aQ]
theorem PZ(n:Nat)(b:aG):bE (n+24) (aQ .none b)=true:=by
 simp[aQ,gQ.none]
theorem PF(h:aA)(t:gQ)(b:aG):gP h (aQ t b)=some (aQ t b,h):=by
 simp[aQ,On,Bh,Ge,Zg,G5,yG,yF,Bw]
theorem U9(off:Nat)(n:Option Nat)(t:gQ)(b:aG):Hi off n (aQ t b)=dB n (fQ t b) off:=_root_.id rfl
attribute [simp] PW V9 PV LQ WB WA VZ VY VX VW RX RW RV RU RT RS Qq OB PZ PF U9 G8 Zh Tq G7 On Ge Bh Zg G6 EV G5 G4 EW yG yF Bw
section
variable {b:aG} (t:gQ)
theorem kAF(h:eR b)(z:mK b)(c d:Int):pcF D t66 [aQ t b,.agg [.int .i64 c,.int .i64 d]]=some (.tup [aH ((advOf b ⟨c,d⟩).getD pD),.bool (lB (advOf b ⟨c,d⟩))]) :=
 s66 _ _ _ _ _ _ _ c d h.ra (by have:=z.adv;omega) ((hZ _ _).mono (by decide)) ((nM _ _ _ _).mono (by decide)) ((nM _ _ _ _).mono (by decide)) ((nM _ _ _ _).mono (by decide)) ((nM _ _ _ _).mono (by decide))
theorem kOf(z:mK b)(c d:Int):pcF D t14 [aQ t b,.agg [.int .i64 c,.int .i64 d]]=some (eL false 7 aD (ofT ⟨c,d⟩ b.entries)) :=
 s14 _ _ _ _ _ _ _ c d (by have:=z.ent;omega)
theorem TL(h:eR b)(z:mK b)(tc td sc sd:Int){p:aZ}(hp:bM p)(q:Int)(u:Bool):pcF D t92 [aQ .none b,.agg [.int .i64 tc,.int .i64 td,.int .i64 sc,.int .i64 sd,bO p,.int .i64 q,.bool u]]=some (.tup [aQ .none (eS b ⟨⟨tc,td⟩,⟨sc,sd⟩,p,q,u⟩).1,.bool (eS b ⟨⟨tc,td⟩,⟨sc,sd⟩,p,q,u⟩).2]) :=
 s92 b ⟨⟨tc,td⟩,⟨sc,sd⟩,p,q,u⟩ z h.asked hp h.ra h.re
theorem RK(h:eR b)(z:mK b)(tc td sc sd q:Int):pcF D t94 [aQ .none b,.agg [.int .i64 tc,.int .i64 td],.agg [.int .i64 sc,.int .i64 sd],.int .i64 q]=some (.tup [aQ .none (dO b ⟨tc,td⟩ ⟨sc,sd⟩ q).1,eL false 7 aD (dO b ⟨tc,td⟩ ⟨sc,sd⟩ q).2.1,.bool (dO b ⟨tc,td⟩ ⟨sc,sd⟩ q).2.2]) :=
 s94 b tc td sc sd q z h.pe h.re
end
end Go.Dm.Tc
/-
What the laws' arguments are: numbers of which predicates,steps,brokers are Dc.
-/
namespace Go.Dm.Tc
structure PK where
 has:List Int
 vals:List Int
def ePK(p:PK):DV:=.agg [eL false 1 fJ p.has,eL false 1 fJ p.vals]
def PK.pred(p:PK):aZ:=Gc p.has p.vals
structure An where
 kind:Int
 jW:Int
 tree:Int
 bS:Int
 seq:Int
 has:List Int
 vals:List Int
def oE(s:An):DV:=.agg [.int .i64 s.kind,.int .i64 s.jW,.int .i64 s.tree,.int .i64 s.bS,.int .i64 s.seq,eL false 1 fJ s.has,eL false 1 fJ s.vals]
structure BrokK where
 bJ:Int
 steps:List An
end Go.Dm.Tc
/-
More plain laws of brokers: one entry for a tree and a number;what covers itself;what comes of an entry taken out,of one added.
-/
namespace Go.Dm.Tc
theorem Zo{l:List aX}(h:fR l){d e:aX}(hd:d∈l)(he:e∈l)(ht:d.tree=e.tree)(hs:d.sub=e.sub):d=e:=by
 by_cases hde:d=e
 ·exact hde
 ·exfalso
  obtain⟨i,hi,rfl⟩:=List.mem_iff_getElem.1 hd
  obtain⟨j,hj,rfl⟩:=List.mem_iff_getElem.1 he
  rcases Nat.lt_trichotomy i j with aY|Oh|aY
  ·have:=List.pairwise_iff_getElem.1 h i j hi hj aY
   rw[kU.2 ⟨ht,hs⟩]at this;omega
  ·subst Oh;exact hde rfl
  ·have:=List.pairwise_iff_getElem.1 h j i hj hi aY
   rw[kU.2 ⟨ht.symm,hs.symm⟩]at this;omega
theorem wL{t s:ID}{e:aX}:isE t s e=true↔e.tree=t∧e.sub=s:=by simp[isE]
theorem F5{t s:ID}{e:aX}:isE t s e=false↔¬(e.tree=t∧e.sub=s):=by simp[isE]
theorem Uy(s:List UInt8):jE s s=true:=by simp[jE]
theorem Vt{c:iB}(h:cS c=true):nY c c=true:=by
 have hk:c.kind=1∨c.kind=2∨c.kind=3:=by
  unfold cS at h
  rw[Bool.and_eq_true]at h
  have:=h.2
  split at this
  ·rename_i h;exact .inl h
  ·split at this
   ·rename_i h;exact .inr (.inr h)
   ·split at this
    ·rename_i h;exact .inr (.inl h)
    ·cases this
 unfold nY lV
 rcases hk with h|h|h<;>simp[h,Uy]
theorem U5{p:aZ}(h:oJ p){c:iB}(hc:c∈p):p.find? (fun x=>decide (x.name=c.name))=some c:=by
 induction p with
 | nil=>cases hc
 | cons d p ih =>
  have h':=List.pairwise_cons.1 h
  rw[List.find?_cons]
  rcases List.mem_cons.1 hc with rfl|hc
  ·simp
  ·have:d.name≠c.name:=h'.1 c hc
   simp only[this,decide_false]
   exact ih h'.2 hc
theorem Um{p:aZ}(h:bM p):iJ p p=true:=by
 unfold iJ
 rw[List.all_eq_true]
 intro c hc
 rw[U5 h.unlike hc]
 exact Vt (h.each c hc)
theorem K9(t:ID):∀(rest done kK:List aX),(eH t done rest kK).2.length≤kK.length+rest.length:=by
 intro rest
 induction rest with
 | nil=>intro done kK;simp[eH]
 | cons e rest ih =>
  intro done kK
  unfold eH
  split
  ·have:=ih (done++[{e with up:=true}]) (kK++[{e with up:=true}]);simp at this ⊢;omega
  ·have:=ih (done++[e]) kK;simp at this ⊢;omega
theorem Qc(b:aG)(t s:ID)(q:Int):(dO b t s q).2.1.length≤b.entries.length:=by
 unfold dO
 split
 ·simp
 ·split
  ·split
   ·refine Nat.le_trans (K9 _ _ _ _) ?_
    simp only[List.length_nil,Nat.zero_add]
    exact List.length_filter_le ..
   ·simp
  ·simp
end Go.Dm.Tc
/-
Numbers sorted,pairs too: the plain law,and the hook.
-/
namespace Go.Dm.Tc
def atL(L:List Int)(i:Nat):Int:=L.getD i 0
theorem yK{L:List Int}{i:Nat}(h:i<L.length):atL L i=L[i]:=by simp[atL,h]
structure RowS(id:Nat)(sp:List DV)(cap:Option Nat)(h h':aA)(L:List Int):Prop where
 get:h'.get id=some (.arr 3 1 (L.map fJ++sp) cap)
 n:h'.n=h.n
 lim:h'.lim=h.lim
 wf:WF h'
 oth:∀k,k≠id→h'.get k=h.get k
end Go.Dm.Tc
/-
AdvertsOrder: numbers sorted,and the same ones struck: the walk.
-/
namespace Go.Dm.Tc
def Ie(L:List Int):Prop:=L.Pairwise (·<·)
theorem Qk{A:List Int}{v:Int}(h:Ie A)(hv:∀a∈A,a<v):Ie (A++[v]):=by
 unfold Ie at *
 rw[List.pairwise_append]
 exact⟨h,List.pairwise_singleton ..,fun a ha b hb=>by rw[List.mem_singleton.1 hb];exact hv a ha⟩
theorem wC{L:List Int}{p:Nat}(h:p<L.length):L.take (p+1)=L.take p++[atL L p]:=by
 rw[List.take_succ,List.getElem?_eq_getElem h,yK h];rfl
theorem Kh{M:List Int}{k:Nat}(h:k<M.length)(v:Int):(M.set k v).take (k+1)=M.take k++[v]:=by
 rw[wC (by simpa using h)]
 congr 1
 ·exact List.take_set_of_le (Nat.le_refl _)
 ·simp[atL,h]
structure Da(L M:List Int)(k p:Nat):Prop where
 len:M.length=L.length
 k1:1≤k
 kp:k<p
 pl:p≤L.length
 tail:∀i,p-1≤i→atL M i=atL L i
 strict:Ie (M.take k)
 mem:∀x,x∈M.take k↔x∈L.take p
 last:atL M (k-1)=atL L (p-1)
theorem Da.start{L:List Int}{k:Nat}(hs:Ie (L.take k))(h1:1≤k)(hk:k<L.length)(he:atL L k=atL L (k-1)):Da L L k (k+1):=by
 refine⟨rfl,h1,by omega,by omega,fun _ _=>rfl,hs,fun x=>?_,by simp[he]⟩
 rw[wC hk,List.mem_append,List.mem_singleton]
 constructor
 ·exact .inl
 ·rintro(h|h)
  ·exact h
  ·rw[h,he]
   have:k-1<L.length:=by omega
   rw[yK this]
   exact List.mem_take_iff_getElem.2 ⟨k-1,by omega,rfl⟩
theorem Da.same{L M:List Int}{k p:Nat}(h:Da L M k p)(hp:p<L.length)(he:atL L p=atL L (p-1)):Da L M k (p+1):=by
 refine⟨h.len,h.k1,by have:=h.kp;omega,by omega,fun i hi=>h.tail i (by omega),h.strict,fun x=>?_,by rw[h.last];simp[he]⟩
 rw[h.mem,wC hp,List.mem_append,List.mem_singleton]
 constructor
 ·exact .inl
 ·rintro(q|q)
  ·exact q
  ·rw[q,he]
   have hkp:=h.kp
   have:p-1<L.length:=by omega
   rw[yK this]
   exact List.mem_take_iff_getElem.2 ⟨p-1,by omega,rfl⟩
theorem Da.more{L M:List Int}{k p:Nat}(h:Da L M k p)(hs:L.Pairwise (·≤·))(hp:p<L.length)(he:atL L p≠atL L (p-1)):Da L (M.set k (atL L p)) (k+1) (p+1):=by
 have hkp:=h.kp
 have Z1:=h.k1
 have hkM:k<M.length:=by rw[h.len];omega
 have aY:atL L (p-1)<atL L p:=by
  have:=List.pairwise_iff_getElem.1 hs (p-1) p (by omega) hp (by omega)
  rw[←yK (by omega:p-1<L.length),←yK hp]at this
  omega
 refine⟨by simpa using h.len,by omega,by omega,by omega,?_,?_,?_,?_⟩
 ·intro i hi
  have:atL (M.set k (atL L p)) i=atL M i:=by
   unfold atL
   simp only[List.getD_eq_getElem?_getD,List.getElem?_set]
   rw[if_neg (by omega)]
  rw[this]
  exact h.tail i (by omega)
 ·rw[Kh hkM]
  refine Qk h.strict fun a ha=>?_
  have cM:a≤atL M (k-1):=by
   obtain⟨i,hi,rfl⟩:=List.mem_take_iff_getElem.1 ha
   by_cases e:i=k-1
   ·subst e;rw[yK (by omega)];exact Int.le_refl _
   ·have:=List.pairwise_iff_getElem.1 h.strict i (k-1) (by simp;omega) (by simp;omega) (by omega)
    simp only[List.getElem_take]at this
    rw[yK (by omega)];omega
  rw[h.last]at cM
  omega
 ·intro x
  rw[Kh hkM,wC hp,List.mem_append,List.mem_append,h.mem]
 ·have:atL (M.set k (atL L p)) (k+1-1)=atL L p:=by simp[atL,hkM]
  rw[this];rfl
end Go.Dm.Tc
/-
AdvertsOrder: a new broker,whatever its neighbours.
-/
namespace Go.Dm.Tc
end Go.Dm.Tc
/-
What functions compute,part 30: texts compared;the search among constraints;two constraints in one.
-/
namespace Go.Dm.Tc
theorem AH{a b:UInt8}(h1:¬a<b)(h2:¬b<a):a=b:=by
 rw[UInt8.lt_iff_toNat_lt]at h1 h2
 exact UInt8.toNat_inj.1 (by omega)
theorem Ec:∀{a b:List UInt8},Go.Lib.compareBytes a b<0↔Go.Op.bytesLess a b=true
 | [],[]=>by simp[Go.Lib.compareBytes,Go.Op.bytesLess]
 | [],b::bs=>by simp[Go.Lib.compareBytes,Go.Op.bytesLess]
 | a::az,[]=>by simp[Go.Lib.compareBytes,Go.Op.bytesLess]
 | a::az,b::bz=>by
  have ih:=Ec (a:=az) (b:=bz)
  unfold Go.Lib.compareBytes Go.Op.bytesLess
  by_cases h1:a<b
  ·simp[h1]
  ·by_cases h2:b<a
   ·have:a≠b:=fun e=>by subst e;exact h1 h2
    simp[h1,h2,this]
   ·have:=AH h1 h2
    simp[h1,h2,this,ih]
theorem Pf:∀{a b:List UInt8},Go.Lib.compareBytes a b=0↔a=b
 | [],[]=>by simp[Go.Lib.compareBytes]
 | [],b::bs=>by simp[Go.Lib.compareBytes]
 | a::az,[]=>by simp[Go.Lib.compareBytes]
 | a::az,b::bz=>by
  have ih:=Pf (a:=az) (b:=bz)
  unfold Go.Lib.compareBytes
  by_cases h1:a<b
  ·have:a≠b:=fun e=>by subst e;have:=AG (a:=a) (b:=a);simp_all
   simp[h1,this]
  ·by_cases h2:b<a
   ·have:a≠b:=fun e=>by subst e;exact h1 h2
    simp[h1,h2,this]
   ·have:=AH h1 h2
    simp[h1,h2,this,ih]
theorem SF(a b:List UInt8):pcF D L4 [.str a,.str b]=some (.int .i64 (Go.Lib.compareBytes a b)):=by
 unfold pcF
 rw[aM _ _ _ _ (by simp[L4])]
 simp[L4,TP,lN]
theorem SO(a b:List UInt8):pcF D M3 [.str a,.str b]=some (.int .i64 (Go.Lib.compareBytes a b)):=by
 unfold pcF
 rw[aM _ _ _ _ (by simp[M3])]
 simp[M3,TR,SF]
def kQ(s:List UInt8)(c:iB):Int:=Go.Lib.compareBytes c.name s
theorem SP(c:iB)(s:List UInt8):pcF D M4 [aW c,.str s]=some (.int .i64 (kQ s c)):=by
 unfold pcF
 rw[aM _ _ _ _ (by simp[M4])]
 simp[M4,aW,UA,SO,kQ]
theorem TI(t:Bool)(xs:List iB)(s:List UInt8)(g:Nat)(cap:List DV)(cm:iB→Int)(hg:∀x∈xs,∀h,fc D g ([aW x,.str s]++cap) h=some (.int .i64 (cm x),h))(hl:xs.length≤1000000)
  (hm:∀i j (hi:i<xs.length) (hj:j<xs.length),i≤j→cm xs[j]<0→cm xs[i]<0) (h:aA) :
  ∀(n i j:Nat) (f:dK),j-i=n→i≤j→j≤xs.length→f 0=eL t 5 aW xs→f 1=.str s→f 2=.func g cap→f 8=.int .i64 xs.length→f 9=.int .i64 i→f 10=.int .i64 j →
  (∀q (hq:q<i),(qS:q<xs.length)→cm xs[q]<0)→(∀q (hq:q<xs.length),j≤q→¬cm xs[q]<0) →
  gV (fin [.t 6,.t 7] (run D 49 [.block 0,.seq Ma] (.loop Wh) f h))=some (.tup [.int .i64 (bG cm xs),.bool (eJ cm xs)]):=by
 intro n
 induction n using Nat.strongRecOn with
 | ind n ih =>
  intro i j f hn T4 hj h0 h1 h2 h8 h9 lJ pS jP
  rw[aO Wh.eq_1]
  by_cases aY:i<j
  ·have hk:(i+j) / 2<xs.length:=by omega
   have Dx:xs[(i+j) / 2]?=some xs[(i+j) / 2]:=List.getElem?_eq_getElem hk
   have uE:=hg xs[(i+j) / 2] (List.getElem_mem hk)
   simp only[aW,List.cons_append,List.nil_append]at uE
   have w1:IntKind.i64.wrap ((i:Int)+j)=((i:Int)+j):=bC (by omega) (by omega)
   have w2:IntKind.u64.wrap ((i:Int)+j)=((i:Int)+j):=wB (by omega) (by omega)
   have w3:IntKind.i64.wrap (((i+j) / 2:Nat):Int)=((i+j) / 2:Nat):=bC (by omega) (by omega)
   have w4:IntKind.i64.wrap ((((i+j) / 2:Nat):Int)+1)=((((i+j) / 2:Nat):Int)+1):=bC (by omega) (by omega)
   by_cases hc:cm xs[(i+j) / 2]<0
   ·simp[h0,h1,h2,h8,h9,lJ,aY,hk,Dx,uE,aW,w1,w2,w3,w4,hc,-Int.natCast_ediv]
    refine ih (j-((i+j) / 2+1)) (by omega) ((i+j) / 2+1) j _ rfl (by omega) hj ?_ ?_ ?_ ?_ ?_ ?_ ?_ jP<;>try simp[h0,h1,h2,h8,lJ]
    intro q hq qS
    exact hm q ((i+j) / 2) qS hk (by omega) hc
   ·simp[h0,h1,h2,h8,h9,lJ,aY,hk,Dx,uE,aW,w1,w2,w3,w4,hc,-Int.natCast_ediv]
    refine ih ((i+j) / 2-i) (by omega) i ((i+j) / 2) _ rfl (by omega) (by omega) ?_ ?_ ?_ ?_ ?_ ?_ pS ?_<;>try simp[h0,h1,h2,h8,h9]
    intro q hq qS
    exact Int.not_lt.1 fun hx=>hc (hm ((i+j) / 2) q hk hq qS hx)
  ·have Of:i=j:=by omega
   subst Of
   have dM:bG cm xs=i:=mT hj (fun q hq=>pS q hq (by omega)) (fun hq=>jP i hq (Nat.le_refl i))
   by_cases hi:i<xs.length
   ·have uE:=hg xs[i] (List.getElem_mem hi)
    simp only[aW,List.cons_append,List.nil_append]at uE
    have Dx:xs[i]?=some xs[i]:=List.getElem?_eq_getElem hi
    simp[Ma,h0,h1,h2,h8,h9,lJ,hi,Dx,uE,aW,dM,eJ,aL]
    rfl
   ·simp[Ma,h0,h1,h2,h8,h9,lJ,hi,dM,eJ,aL]
theorem SQ(t:Bool)(xs:List iB)(s:List UInt8)(hl:xs.length≤1000000)(hm:∀i j (hi:i<xs.length) (hj:j<xs.length),i≤j→kQ s xs[j]<0→kQ s xs[i]<0) :
  pcF D M5 [eL t 5 aW xs,.str s,.func 153 []]=some (.tup [.int .i64 (bG (kQ s) xs),.bool (eJ (kQ s) xs)]):=by
 have hg:∀x∈xs,∀h,fc D 153 ([aW x,.str s]++[]) h=some (.int .i64 (kQ s x),h):=fun x _ h=>by
  have:=SP x s
  simp only[aW]at this
  simp[aW,UB,this]
 unfold pcF
 rw[aM _ _ _ _ (by simp[M5])]
 simp[M5]
 refine TI t xs s 153 [] (kQ s) hg hl hm _ xs.length 0 xs.length _ (by omega) (by omega) (by omega) ?_ ?_ ?_ ?_ ?_ ?_ ?_ ?_<;>simp
 intro q hq qS
 omega
def mxI(a b:Int):Int:=if a<b then b else a
def mnI(a b:Int):Int:=if b<a then b else a
def lU(a b:iB):Option iB :=
 if a.kind=1 then(if b.kind=1∧mxI a.lo b.lo≤mnI a.hi b.hi then some {a with lo:=mxI a.lo b.lo,hi:=mnI a.hi b.hi} else none)
 else if b.kind=1 then none
 else if a.kind=2 then(if lV b a.text=true then some a else none)
 else if b.kind=2 then(if lV a b.text=true then some b else none)
 else if a.text.length<b.text.length then(if jE b.text a.text=true then some b else none)
 else(if jE a.text b.text=true then some a else none)
def iV:iB:=⟨[],0,0,0,[]⟩
def qY(k:Int):Prop:=k=1∨k=2∨k=3
theorem SN(a b:iB)(ha:qY a.kind)(hb:qY b.kind):pcF D wU [aW a,aW b]=some (.tup [aW ((lU a b).getD iV),.bool (lB (lU a b))]):=by
 obtain⟨nm,k,lo,hi,tx⟩:=a
 obtain⟨nm',k',lo',oP,tx'⟩:=b
 simp only[qY]at ha hb
 unfold pcF
 rw[aM _ _ _ _ (by simp[wU])]
 rcases ha with rfl|rfl|rfl
 ·rcases hb with rfl|rfl|rfl
  ·by_cases h:mnI hi oP<mxI lo lo'
   ·have h':¬mxI lo lo'≤mnI hi oP:=by omega
    simp only[mnI,mxI]at h h'
    simp[wU,aW,lU,mnI,mxI,h,h',turn,aL,lB,iV]
   ·have h':mxI lo lo'≤mnI hi oP:=by omega
    simp only[mnI,mxI]at h h'
    simp[wU,aW,lU,mnI,mxI,h,h',turn,aL,lB,iV]
  ·simp[wU,aW,lU,turn,aL,lB,iV]
  ·simp[wU,aW,lU,turn,aL,lB,iV]
 ·rcases hb with rfl|rfl|rfl
  ·simp[wU,aW,lU,turn,aL,lB,iV]
  ·have hh:=s96 nm' 2 lo' oP tx' tx
   cases hq:lV ⟨nm',2,lo',oP,tx'⟩ tx<;>rw[hq]at hh<;>simp[wU,aW,lU,turn,aL,lB,iV,e97,s97,Ox,e96,hh,hq]
  ·have hh:=s96 nm' 3 lo' oP tx' tx
   cases hq:lV ⟨nm',3,lo',oP,tx'⟩ tx<;>rw[hq]at hh<;>simp[wU,aW,lU,turn,aL,lB,iV,e97,s97,Ox,e96,hh,hq]
 ·rcases hb with rfl|rfl|rfl
  ·simp[wU,aW,lU,turn,aL,lB,iV]
  ·have hh:=s96 nm 3 lo hi tx tx'
   cases hq:lV ⟨nm,3,lo,hi,tx⟩ tx'<;>rw[hq]at hh<;>simp[wU,aW,lU,turn,aL,lB,iV,e97,s97,Ox,e96,hh,hq]
  ·by_cases hl:tx.length<tx'.length
   ·have hh:=s96 nm 3 lo hi tx tx'
    have hd:lV ⟨nm,3,lo,hi,tx⟩ tx'=jE tx' tx:=rfl
    rw[hd]at hh
    have Od:(tx.length:Int)<tx'.length:=by omega
    cases hq:jE tx' tx<;>rw[hq]at hh<;>simp[wU,aW,lU,turn,aL,lB,iV,e97,s97,Ox,e96,hh,hq,hl,Od]
   ·have hh:=s96 nm' 3 lo' oP tx' tx
    have hd:lV ⟨nm',3,lo',oP,tx'⟩ tx=jE tx tx':=rfl
    rw[hd]at hh
    have Od:¬(tx.length:Int)<tx'.length:=by omega
    cases hq:jE tx tx'<;>rw[hq]at hh<;>simp[wU,aW,lU,turn,aL,lB,iV,e97,s97,Ox,e96,hh,hq,hl,Od]
end Go.Dm.Tc
/-
What functions compute,part 31: a predicate Dc of constraints.
-/
namespace Go.Dm.Tc
def vZ(p:aZ):Prop:=(p.map (·.name)).Pairwise fun a b=>Go.Op.bytesLess a b=true
theorem LM{a b:List UInt8}(h1:¬Go.Lib.compareBytes a b<0)(h2:Go.Lib.compareBytes a b≠0):Go.Op.bytesLess b a=true:=by
 have go:∀(a b:List UInt8),Go.Op.bytesLess a b=true∨a=b∨Go.Op.bytesLess b a=true:=by
  intro a
  induction a with
  | nil=>intro b;cases b<;>simp[Go.Op.bytesLess]
  | cons x a ih =>
   intro b
   cases b with
   | nil=>simp[Go.Op.bytesLess]
   | cons y b =>
    simp only[Go.Op.bytesLess]
    by_cases h1:x<y
    ·simp[h1]
    ·by_cases h2:y<x
     ·simp[h2]
     ·have:=AH h1 h2
      subst this
      rcases ih b with h|h|h<;>simp[h]
 rcases go a b with h|h|h
 ·exact absurd (Ec.2 h) h1
 ·exact absurd (Pf.2 h) h2
 ·exact h
theorem vZ.mono{p:aZ}(h:vZ p)(s:List UInt8):∀i j (hi:i<p.length) (hj:j<p.length),i≤j→kQ s p[j]<0→kQ s p[i]<0:=by
 intro i j hi hj T4 hc
 unfold kQ at *
 rw[Ec]at *
 rcases Nat.lt_or_eq_of_le T4 with aY|rfl
 ·have:=List.pairwise_iff_getElem.1 h i j (by simpa using hi) (by simpa using hj) aY
  simp only[List.getElem_map]at this
  exact vU this hc
 ·exact hc
theorem JR{α:Type}{cm:α→Int}{xs:List α}{q:Nat}(hq:q<bG cm xs)(hl:q<xs.length):cm xs[q]<0:=by
 have:=List.not_of_lt_findIdx hq
 simpa using this
theorem ON{α:Type}{cm:α→Int}{xs:List α}(hl:bG cm xs<xs.length):¬cm xs[bG cm xs]<0:=by
 intro hc
 have h1:(fun x=>!decide (cm x<0)) (xs[bG cm xs])=true:=List.findIdx_getElem (w:=hl)
 have h2:(!decide (cm xs[bG cm xs]<0))=true:=h1
 rw[decide_eq_true hc]at h2
 cases h2
def Jk(out:aZ)(c:iB):Option aZ :=
 if eJ (kQ c.name) out=true then(match out[bG (kQ c.name) out]? with
  | some x=>(match lU x c with|some b=>some (out.set (bG (kQ c.name) out) b)|none=>none)
  | none=>none)
 else if out.length=5 then none else some (out.take (bG (kQ c.name) out)++c::out.drop (bG (kQ c.name) out))
def mH:aZ→aZ→Option aZ
 | out,[]=>some out
 | out,c::r=>match Jk out c with
  | some o=>mH o r
  | none=>none
theorem Yq{a b x:iB}(hn:a.name=b.name)(h:lU a b=some x):x.name=a.name:=by
 unfold lU at h
 repeat' split at h
 all_goals first
  | (cases h;done)
  | (cases h;first|rfl|exact hn.symm)
theorem Yr{a b x:iB}(ha:qY a.kind)(hb:qY b.kind)(h:lU a b=some x):qY x.kind:=by
 unfold lU at h
 repeat' split at h
 all_goals first
  | (cases h;done)
  | (cases h;first|exact ha|exact hb)
theorem G1{cm:iB→Int}{out:aZ}(h:eJ cm out=true):∃ x,out[bG cm out]?=some x∧cm x=0∧bG cm out<out.length:=by
 unfold eJ at h
 split at h
 ·rename_i x hx
  exact⟨x,hx,by simpa using h,(List.getElem?_eq_some_iff.1 hx).1⟩
 ·cases h
theorem F6{out:aZ}{c:iB}{o:aZ}(hu:vZ out)(hk:∀x∈out,qY x.kind)(hl:out.length≤5)(hc:qY c.kind)(h:Jk out c=some o):vZ o∧(∀x∈o,qY x.kind)∧o.length≤5:=by
 unfold Jk at h
 split at h
 ·rename_i hh
  obtain⟨x,hx,Pq,aY⟩:=G1 hh
  rw[hx]at h
  simp only at h
  split at h
  ·rename_i b hb
   cases h
   have hxm:x∈out:=List.mem_of_getElem? hx
   have hnm:b.name=x.name:=Yq (Pf.1 Pq) hb
   refine⟨?_,fun y hy=>?_,by simpa using hl⟩
   ·unfold vZ at hu ⊢
    have:(out.set (bG (kQ c.name) out) b).map (·.name)=out.map (·.name):=by
     rw[List.map_set]
     refine List.ext_getElem? fun i=>?_
     rw[List.getElem?_set]
     split
     ·rename_i e;subst e
      simp only[List.length_map,aY,if_true,List.getElem?_map,hx,Option.map_some,hnm]
     ·rfl
    rw[this];exact hu
   ·rcases List.mem_or_eq_of_mem_set hy with h1|h1
    ·exact hk y h1
    ·subst h1;exact Yr (hk x hxm) hc hb
  ·cases h
 ·rename_i hh
  split at h
  ·cases h
  ·rename_i h5
   cases h
   refine⟨?_,fun y hy=>?_,by simp;omega⟩
   ·unfold vZ at hu ⊢
    generalize sR:bG (kQ c.name) out=k at *
    rw[List.map_append,List.map_cons,List.map_take,List.map_drop,List.pairwise_append,List.pairwise_cons]
    have pS:∀n∈(out.map (·.name)).take k,Go.Op.bytesLess n c.name=true:=by
     intro n hn
     obtain⟨i,hi,rfl⟩:=List.mem_iff_getElem.1 hn
     simp only[List.length_take,List.length_map]at hi
     simp only[List.getElem_take,List.getElem_map]
     have:=JR (cm:=kQ c.name) (xs:=out) (q:=i) (by rw[sR];omega) (by omega)
     exact Ec.1 this
    have jP:∀n∈(out.map (·.name)).drop k,Go.Op.bytesLess c.name n=true:=by
     intro n hn
     obtain⟨i,hi,rfl⟩:=List.mem_iff_getElem.1 hn
     simp only[List.length_drop,List.length_map]at hi
     simp only[List.getElem_drop,List.getElem_map]
     have Z1:k<out.length:=by omega
     have h0:¬kQ c.name out[k]<0:=by
      have:=ON (cm:=kQ c.name) (xs:=out) (by rw[sR];exact Z1)
      simp only[sR]at this
      exact this
     have h1:kQ c.name out[k]≠0:=by
      intro e
      apply hh
      unfold eJ
      rw[sR,List.getElem?_eq_getElem Z1]
      simp[e]
     have h2:=LM h0 h1
     by_cases uK:i=0
     ·subst uK;simpa using h2
     ·have:=List.pairwise_iff_getElem.1 hu k (k+i) (by simpa using Z1) (by simp;omega) (by omega)
      simp only[List.getElem_map]at this
      exact vU h2 this
    refine⟨hu.sublist (List.take_sublist ..),⟨jP,hu.sublist (List.drop_sublist ..)⟩,?_⟩
    intro x hx y hy
    rcases List.mem_cons.1 hy with rfl|hy
    ·exact pS x hx
    ·exact vU (pS x hx) (jP y hy)
   ·rcases List.mem_append.1 hy with h1|h1
    ·exact hk y (List.mem_of_mem_take h1)
    ·rcases List.mem_cons.1 h1 with rfl|h1
     ·exact hc
     ·exact hk y (List.mem_of_mem_drop h1)
theorem Kp(t:Bool)(h:aA)(ty:Nat)(k:IntKind)(m:Int):resolve t h 200 (.iface ty (.int k m))=some (.iface ty (.int k m)):=rfl
theorem s52(s:List UInt8)(i:Int)(ty:Nat)(e:Int):∃ T v,pcF D t52 [.str s,.int .i64 i,.iface ty (.int .i64 e)]=some (.iface T v)∧(∀h,resolve false h 199 (.iface T v)=some (.iface T v))∧bE 199 (.iface T v)=true:=by
 unfold pcF
 rw[aM _ _ _ _ (by simp[t52])]
 simp[t52,sD,Cp]
 exact⟨_,_,rfl,fun _=>rfl,rfl⟩
end Go.Dm.Tc
/-
What functions compute,part 32: pred.Make.
-/
namespace Go.Dm.Tc
theorem TK(S:List Fr)(t:Bool)(l:aZ)(hl:l.length≤1000000)(hr:∀c∈l,cS c=true∧c.name.length≤1000000)(P:Res→Prop) :
  ∀(rest:aZ) (i:Nat) (f:dK) (h:aA),l.drop i=rest→f 0=eL t 5 aW l→f 3=.nili→f 13=eL t 5 aW l→f 14=.int .i64 l.length→f 15=.int .i64 i→h.lim=0→WF h →
  (∀f' h',f' 0=eL t 5 aW l→f' 3=.nili→h'.lim=0→WF h'→P (run D 75 S Me f' h')) →
  P (run D 75 (.block 0::.seq Me::S) (.loop Md) f h):=by
 intro rest
 induction rest with
 | nil =>
  intro i f h hd h0 h3 ES G3 Z5 aS wf hP
  have hi:=fY hd
  have:¬(i<l.length):=by omega
  rw[aO Md.eq_1]
  simp[G3,Z5,this]
  refine hP _ _ ?_ ?_ aS wf<;>simp[h0,h3]
 | cons c rest ih =>
  intro i f h hd h0 h3 ES G3 Z5 aS wf hP
  obtain⟨hi,he,nJ⟩:=iI hd
  have hc:=hr c (by rw[←he];exact List.getElem_mem hi)
  have hs:=SR c.name c.kind c.lo c.hi c.text hc.2
  have Jq:cS ⟨c.name,c.kind,c.lo,c.hi,c.text⟩=true:=hc.1
  rw[Jq]at hs
  rw[aO Md.eq_1]
  simp[ES,G3,Z5,hi,he,aW,aS,wf,turn,UC,hs]
  rw[bC (by omega) (by omega)]
  generalize hF:upd _ 15 _=F
  refine ih (i+1) F _ nJ ?_ ?_ ?_ ?_ ?_ ?_ ?_ hP
  ·rw[←hF];simp[h0]
  ·rw[←hF];simp[h3]
  ·rw[←hF];simp[ES]
  ·rw[←hF];simp[G3]
  ·rw[←hF];simp
  ·simp[aS]
  ·simp[wf]
def uC(o:Option aZ)(r:Option DV):Prop :=
 match o with
 | some out=>r=some (.tup [eL false 5 aW out,.nili])
 | none=>∃ T v,r=some (.tup [.isl false 0 [],.iface T v])
theorem TE(t:Bool)(l:aZ)(hl:l.length≤1000000)(hr:∀c∈l,qY c.kind) :
  ∀(rest:aZ) (i:Nat) (out:aZ) (v:DV) (f:dK) (h:aA),l.drop i=rest→vZ out→(∀c∈out,qY c.kind)→out.length≤5→f 3=.nili→f 27=eL t 5 aW l→f 28=.int .i64 l.length→f 29=.int .i64 i→f 6=v →
  Own 0 h v 98 5 (out.map aW)→h.lim=0→WF h →
  uC (mH out rest) (gV (fin [.t 2,.t 3] (run D 75 [.block 2,.seq Wl] (.loop Mc) f h))):=by
 intro rest
 induction rest with
 | nil =>
  intro i out v f h hd hu hk h5 h3 PD MO PC h6 ho aS wf
  have hi:=fY hd
  have:¬(i<l.length):=by omega
  have r1:resolve false h 199 v=some (eL false 5 aW out):=ho.toR.resolve false (fun y _=>(pI y).1) (by decide)
  rw[aO Mc.eq_1]
  simp[Wl,MO,PC,this,h6,h3,mH,uC,aL,r1]
  exact jH (fun y _=>(pI y).2) 199 (by decide)
 | cons c rest ih =>
  intro i out v f h hd hu hk h5 h3 PD MO PC h6 ho aS wf
  obtain⟨hi,he,nJ⟩:=iI hd
  have hc:=hr c (by rw[←he];exact List.getElem_mem hi)
  have n0:0≤h.n:=Nat.zero_le _
  have r1:∀o,resolve true (h.push o) 200 v=some (eL true 5 aW out):=fun o=>ho.push.toR.resolve true (fun y _=>(pI y).1) (by decide)
  have hs:=SQ true out c.name (by omega) (hu.mono c.name)
  rw[aO Mc.eq_1]
  cases hh:eJ (kQ c.name) out with
  | true =>
   obtain⟨x,hx,Pq,aY⟩:=G1 hh
   rw[hh]at hs
   cases ho with
   | nil hv hx=>simp at hx;subst hx;simp at aY
   | arr id hv hg Vn dM =>
    have Yz:cF 5 v (.int .i64 (bG (kQ c.name) out:Nat))=some (.ptr id 5 (bG (kQ c.name) out) 0):=by rw[hv];simp[cF,asI,aY]
    have hidn:=aI hg
    have cY:¬id=h.n:=by omega
    have hne':¬h.n=id:=by omega
    have hne2:¬id=h.n+1:=by omega
    have hidn2:id<h.n+1+1:=by omega
    have hxm:x∈out:=List.mem_of_getElem? hx
    have hb:=SN x c (hk x hxm) hc
    have Im:out[bG (kQ c.name) out]=x:=by rw[List.getElem?_eq_getElem aY]at hx;exact Option.some.inj hx
    cases hj:lU x c with
    | none =>
     rw[hj]at hb
     simp only[aW,Option.getD,lB]at hb
     obtain⟨T,w,hw,GJ,hw2⟩:=s52 [112,114,101,100] i 171 5
     simp[PD,MO,PC,hi,he,h6,h3,r1,aS,wf,turn,LI,hs,hg,Yz,hidn,aY,Im,cY,hne',hne2,hidn2,RP,hb,e52,hw,GJ,hw2,Kp,aL,aW,mH,Jk,hh,hx,hj,uC]
    | some b =>
     rw[hj]at hb
     simp only[aW,Option.getD,lB]at hb
     have sT:Jk out c=some (out.set (bG (kQ c.name) out) b):=by simp[Jk,hh,hx,hj]
     obtain⟨g1,g2,g3⟩:=F6 hu hk h5 hc sT
     have GM:mH out (c::rest)=mH (out.set (bG (kQ c.name) out) b) rest:=by simp only[mH,sT]
     have hidn1:id<h.n+1:=by omega
     rw[GM]
     simp[PD,MO,PC,hi,he,h6,h3,r1,aS,wf,turn,LI,hs,hg,Yz,hidn,hidn1,aY,Im,cY,hne',hne2,hidn2,RP,hb,aW]
     rw[bC (by omega) (by omega)]
     generalize hF:upd _ 29 _=F
     refine ih (i+1) _ v F _ nJ g1 g2 g3 ?_ ?_ ?_ ?_ ?_ (.arr id (by rw[hv];simp) ?_ ?_ (Nat.zero_le _)) ?_ ?_
     ·rw[←hF];simp[h3]
     ·rw[←hF];simp[PD]
     ·rw[←hF];simp[MO]
     ·rw[←hF];simp
     ·rw[←hF];simp[h6]
     ·simp[cY,hne',hne2,hidn,wf,List.map_set,aW]
     ·simp[aS]
     ·simp[aS]
     ·simp[wf]
  | false =>
   rw[hh]at hs
   by_cases hf:out.length=5
   ·obtain⟨T,w,hw,GJ,hw2⟩:=s52 [112,114,101,100] i 171 7
    have hl5:lenV (h.push (.arr 98 5 [aW c] (some 1))) 1 v=some (.int .i64 out.length):=by simpa using ho.push.toR.lenV
    simp only[aW]at hl5
    simp[PD,MO,PC,hi,he,h6,h3,r1,aS,wf,turn,LI,hs,hl5,hf,e52,hw,GJ,hw2,Kp,aL,aW,mH,Jk,hh,uC]
   ·have hl5:lenV (h.push (.arr 98 5 [aW c] (some 1))) 1 v=some (.int .i64 out.length):=by simpa using ho.push.toR.lenV
    simp only[aW]at hl5
    have MM:¬(out.length:Int)=5:=by omega
    have sT:Jk out c=some (out.take (bG (kQ c.name) out)++c::out.drop (bG (kQ c.name) out)):=by simp[Jk,hh,hf]
    obtain⟨g1,g2,g3⟩:=F6 hu hk h5 hc sT
    have GM:mH out (c::rest)=mH (out.take (bG (kQ c.name) out)++c::out.drop (bG (kQ c.name) out)) rest:=by simp only[mH,sT]
    rw[GM]
    simp[PD,MO,PC,hi,he,h6,h3,r1,aS,wf,turn,LI,hs,hl5,hf,MM,aW]
    generalize hA:fc D _ _ _=A
    obtain⟨v',K,rfl,p,x,_⟩:=SX hA 0 out c (vety:=98) (c:=1) ho.push.push (by simp[aW]) (hG _ _) (by omega) (by simp[wf]) (Nat.zero_le _) (by simp[aS])
    clear hA
    simp[PC]
    rw[bC (by omega) (by omega)]
    generalize hF:upd _ 29 _=F
    refine ih (i+1) _ v' F K nJ g1 g2 g3 ?_ ?_ ?_ ?_ ?_ p ?_ x.wf
    ·rw[←hF];simp[h3]
    ·rw[←hF];simp[PD]
    ·rw[←hF];simp[MO]
    ·rw[←hF];simp
    ·rw[←hF];simp
    ·rw[x.lim];simp[aS]
theorem SW(t:Bool)(l:aZ)(hl:l.length≤1000000)(hr:∀c∈l,cS c=true∧c.name.length≤1000000)(hk:∀c∈l,qY c.kind):uC (mH [] l) (pcF D N0 [eL t 5 aW l]):=by
 unfold pcF
 rw[aM _ _ _ _ (by simp[N0])]
 simp[N0]
 generalize hF:upd _ 15 _=F
 refine TK [] t l hl hr (fun r=>uC (mH [] l) (gV (fin [.t 2,.t 3] r))) l 0 F qT rfl ?_ ?_ ?_ ?_ ?_ ?_ ?_ fun f' h' k0 k3 klim kwf=>?_
 ·rw[←hF];simp
 ·rw[←hF];simp
 ·rw[←hF];simp
 ·rw[←hF];simp
 ·rw[←hF];simp
 ·simp
 ·simp
 ·simp[Me,k0]
  refine TE t l hl hk l 0 [] .nsl _ h' rfl (by simp[vZ]) (by simp) (by simp) ?_ ?_ ?_ ?_ ?_ (.nil rfl rfl) klim kwf<;>simp[k3]
end Go.Dm.Tc
/-
What functions compute,part 33: rel.Sample,rel.Joint,rel.Meets.
-/
namespace Go.Dm.Tc
def nE(c:iB):DV:=if c.kind=1 then .agg [.str c.name,.bool false,.int .i64 c.lo,.str []]else .agg [.str c.name,.bool true,.int .i64 0,.str c.text]
theorem tG(c:iB):iQ 20 (nE c)∧Unl 22 (nE c):=by
 unfold nE
 split
 ·exact⟨lC (by simp[Hc,Bo,hZ]),mL (by
   intro x hx
   simp only[List.mem_cons,List.not_mem_nil,or_false]at hx
   rcases hx with rfl|rfl|rfl|rfl
   ·exact(yS _).mono (by decide)
   ·exact(Ef _).mono (by decide)
   ·exact(oY _ _).mono (by decide)
   ·exact(yS _).mono (by decide))⟩
 ·exact⟨lC (by simp[Hc,Bo,hZ]),mL (by
   intro x hx
   simp only[List.mem_cons,List.not_mem_nil,or_false]at hx
   rcases hx with rfl|rfl|rfl|rfl
   ·exact(yS _).mono (by decide)
   ·exact(Ef _).mono (by decide)
   ·exact(oY _ _).mono (by decide)
   ·exact(yS _).mono (by decide))⟩
theorem SL(n:Int):pcF D M2 [.int .i64 n]=some (.agg [.bool false,.int .i64 n,.str []]):=by
 unfold pcF
 rw[aM _ _ _ _ (by simp[M2])]
 simp[M2,turn]
theorem TJ(t:Bool)(p:aZ)(hl:p.length≤1000000) :
  ∀(rest done:aZ) (i:Nat) (v:DV) (f:dK) (h:aA),p.drop i=rest→p=done++rest→f 3=v→f 7=eL t 5 aW p→f 8=.int .i64 p.length→f 9=.int .i64 i→OwnR 0 h v 238 4 (done.map nE)→h.lim=0→WF h →
  gV (fin [.t 2] (run D 31 [.block 0,.seq Wk] (.loop Mb) f h))=some (eL false 4 nE p):=by
 intro rest
 induction rest with
 | nil =>
  intro done i v f h hd hp h3 h7 h8 h9 ho aS wf
  have hi:=fY hd
  have:¬(i<p.length):=by omega
  have EO:done=p:=by simpa using hp.symm
  subst EO
  have r1:resolve false h 200 v=some (eL false 4 nE done):=ho.resolve false (fun y _=>(tG y).1) (by decide)
  rw[aO Mb.eq_1]
  simp[Wk,h8,h9,this,h3,r1]
  exact jH (fun y _=>(tG y).2) 200 (by decide)
 | cons c rest ih =>
  intro done i v f h hd hp h3 h7 h8 h9 ho aS wf
  obtain⟨hi,he,nJ⟩:=iI hd
  have EO:p=(done++[c])++rest:=by simpa using hp
  have KR:done.length+1≤1000000:=by have:=congrArg List.length EO;simp at this;omega
  have Gl:=s97 c.text
  simp only[Ox]at Gl
  rw[aO Mb.eq_1]
  by_cases hk:c.kind=1
  ·simp[h3,h7,h8,h9,hi,he,aW,aS,wf,turn,e97,Gl,TY,SL,hk]
   generalize hA:bF _ _ _ _ _ _=A
   obtain⟨v',K,rfl,p',x,_⟩:=OwnR.append (ho.push.push.push) (by simp[wf]) (Nat.zero_le _) (by simp[aS]) hA (by simp;omega) (by decide)
   clear hA
   simp[h9]
   rw[bC (by omega) (by omega)]
   generalize hF:upd _ 9 _=F
   refine ih (done++[c]) (i+1) v' F K nJ EO ?_ ?_ ?_ ?_ ?_ ?_ x.wf
   ·rw[←hF];simp
   ·rw[←hF];simp[h7]
   ·rw[←hF];simp[h8]
   ·rw[←hF];simp
   ·simpa[nE,hk]using p'
   ·rw[x.lim];simp[aS]
  ·simp[h3,h7,h8,h9,hi,he,aW,aS,wf,turn,e97,Gl,hk]
   generalize hA:bF _ _ _ _ _ _=A
   obtain⟨v',K,rfl,p',x,_⟩:=OwnR.append (ho.push.push.push) (by simp[wf]) (Nat.zero_le _) (by simp[aS]) hA (by simp;omega) (by decide)
   clear hA
   simp[h9]
   rw[bC (by omega) (by omega)]
   generalize hF:upd _ 9 _=F
   refine ih (done++[c]) (i+1) v' F K nJ EO ?_ ?_ ?_ ?_ ?_ ?_ x.wf
   ·rw[←hF];simp
   ·rw[←hF];simp[h7]
   ·rw[←hF];simp[h8]
   ·rw[←hF];simp
   ·simpa[nE,hk]using p'
   ·rw[x.lim];simp[aS]
theorem SV(t:Bool)(p:aZ)(hl:p.length≤1000000):pcF D M9 [eL t 5 aW p]=some (eL false 4 nE p):=by
 unfold pcF
 rw[aM _ _ _ _ (by simp[M9])]
 simp[M9]
 refine TJ t p hl p [] 0 .nsl _ qT rfl rfl ?_ ?_ ?_ ?_ (.nil rfl rfl) ?_ ?_<;>simp
def vA(a b:aZ):Bool:=lB (mH [] (a++b))
theorem Xl{c:iB}(h:cS c=true):qY c.kind:=by
 unfold cS at h
 unfold qY
 simp only[Bool.and_eq_true]at h
 have h2:=h.2
 repeat' split at h2
 all_goals first
  | (rename_i e;exact .inl e)
  | (rename_i e;exact .inr (.inr e))
  | (rename_i e;exact .inr (.inl e))
  | (cases h2;done)
theorem Fg:∀{p:aZ} {n:Option (List UInt8)},kG n p=true→∀c∈p,cS c=true
 | [],_,_,c,h=>by cases h
 | x::r,n,h,c,hc=>by
  simp only[kG,Bool.and_eq_true]at h
  rcases List.mem_cons.1 hc with rfl|hc
  ·exact h.1.1
  ·exact Fg h.2 c hc
theorem bM.one{p:aZ}(h:bM p):∀c∈p,cS c=true∧c.name.length≤1000000:=by
 intro c hc
 have h1:=h.right
 unfold rF at h1
 simp only[Bool.and_eq_true]at h1
 exact⟨Fg h1.1 c hc,h.names.2 c hc⟩
theorem Kw:∀(l:aZ) {out o:aZ},out.length≤5→mH out l=some o→o.length≤5
 | [],out,o,h,he=>by simp only[mH,Option.some.injEq]at he;subst he;exact h
 | c::r,out,o,h,he=>by
  simp only[mH]at he
  split at he
  ·rename_i o1 h1
   refine Kw r ?_ he
   unfold Jk at h1
   repeat' split at h1
   all_goals first
    | (cases h1;done)
    | (cases h1;simp only[List.length_set];exact h)
    | (cases h1;simp only[List.length_append,List.length_cons,List.length_take,List.length_drop];omega)
  ·cases he
theorem s91(a b:aZ)(ha:bM a)(hb:bM b):∃ x,pcF D t91 [bO a,bO b]=some (.tup [x,.bool (vA a b)]):=by
 have hla:=ha.len
 have hlb:=hb.len
 have zT:∀c∈a++b,cS c=true∧c.name.length≤1000000:=fun c hc=>(List.mem_append.1 hc).elim (ha.one c) (hb.one c)
 have hm:=SW true (a++b) (by simp;omega) zT fun c hc=>Xl (zT c hc).1
 unfold pcF
 rw[aM _ _ _ _ (by simp[t91])]
 simp only[bO]
 simp[t91]
 generalize hA:bF _ _ _ _ _ _=A
 obtain⟨v1,K1,rfl,p1,x1,_⟩:=OwnR.append (lo:=0) (OwnR.fresh (lo:=0) (xs:=[]) (by simp) (by simp)) (by simp) (Nat.zero_le _) (by simp) hA (by simp;omega) (by decide)
 clear hA
 simp
 generalize hA:bF _ _ _ _ _ _=A
 obtain⟨v2,K2,rfl,p2,x2,_⟩:=OwnR.append p1 x1.wf (Nat.zero_le _) (by rw[x1.lim];simp) hA (by simp;omega) (by decide)
 clear hA
 have hp:OwnR 0 K2 v2 98 5 ((a++b).map aW):=by simpa using p2
 have r1:resolve true K2 200 v2=some (eL true 5 aW (a++b)):=hp.resolve true (fun y _=>(pI y).1) (by decide)
 unfold vA
 cases hk:mH [] (a++b)with
 | none =>
  rw[hk]at hm
  obtain⟨T,w,hw⟩:=hm
  simp[RQ,r1,hw,lB,sD,Cp,aL]
 | some out =>
  rw[hk]at hm
  simp only[uC]at hm
  have hol:out.length≤1000000:=by
   have:=Kw (a++b) (out:=[]) (by simp) hk
   omega
  have hs:=SV false out hol
  have hu:bE 199 (eL false 4 nE out)=true:=jH (fun y _=>(tG y).2) 199 (by decide)
  simp[RQ,r1,hm,lB,sD,Cp,aL,UH,hs,hu]
theorem s45(a b:aZ)(ha:bM a)(hb:bM b):pcF D t45 [bO a,bO b]=some (.bool (vA a b)):=by
 obtain⟨x,hx⟩:=s91 a b ha hb
 unfold pcF
 rw[aM _ _ _ _ (by simp[t45])]
 simp[t45,e91,hx]
end Go.Dm.Tc
/-
What the reference's functions compute,part 9: two constraints in one.
-/
namespace Go.Dm.Tc
end Go.Dm.Tc
/-
What the reference's functions compute,part 10: a predicate Dc of constraints.
-/
namespace Go.Dm.Tc
theorem _root_.Go.Dm.OwnR.mapId{lo:Nat}{h:aA}{v:DV}{ety sz:Nat}{xs:List DV}(w:OwnR lo h v ety sz xs):Dm.mapId v=none:=by
 cases w with
 | nil hv _=>subst hv;rfl
 | arr _ _ _ hv=>subst hv;rfl
end Go.Dm.Tc
/-
What the reference's functions compute,part 11: its predicate Dc of constraints;do two predicates meet?
-/
namespace Go.Dm.Tc
end Go.Dm.Tc
/-
What functions compute,part 34: messages put out;to all neighbours but one.
-/
namespace Go.Dm.Tc
structure iW where
 to:Int
 kind:Int
 tree:ID
 id:ID
 pred:aZ
 deriving DecidableEq,Inhabited
def jA(o:iW):DV:=.agg [.int .i64 o.to,.int .i64 o.kind,.int .i64 o.tree.bS,.int .i64 o.tree.seq,.int .i64 o.id.bS,.int .i64 o.id.seq,bO o.pred,.isl false 0 []]
def qF(es:List DV)(os:List iW):Prop:=es.length=os.length∧∀(tag:Bool) (h:aA) (n:Nat),21≤n→es.mapM (resolve tag h n)=some (os.map jA)
theorem qF.nil:qF [] []:=⟨rfl,fun _ _ _ _=>rfl⟩
theorem qF.append{a b:List DV}{x y:List iW}(h1:qF a x)(h2:qF b y):qF (a++b) (x++y):=by
 refine⟨by simp[h1.1,h2.1],fun tag h n hn=>?_⟩
 rw[List.mapM_append,h1.2 tag h n hn,h2.2 tag h n hn]
 simp
def P6(to k tc td ic id:Int)(pd ad:DV):DV:=.agg [.int .i64 to,.int .i64 k,.int .i64 tc,.int .i64 td,.int .i64 ic,.int .i64 id,pd,ad]
def J3(pd:DV)(p:aZ):Prop:=pd=bO p∨(pd=.nsl∧p=[])
def LW(ad:DV):Prop:=ad=.nsl∨ad=.isl false 0 []
theorem J3.res{pd:DV}{p:aZ}(h:J3 pd p)(tag:Bool)(hp:aA)(n:Nat)(hn:20≤n):resolve tag hp n pd=some (bO p):=by
 obtain⟨m,rfl⟩:∃ m,n=m+1:=⟨n-1,by omega⟩
 rcases h with rfl|⟨rfl,rfl⟩
 ·exact Rs ..
 ·rfl
theorem LW.res{ad:DV}(h:LW ad)(tag:Bool)(hp:aA)(n:Nat)(hn:20≤n):resolve tag hp n ad=some (.isl false 0 []):=by
 obtain⟨m,rfl⟩:∃ m,n=m+1:=⟨n-1,by omega⟩
 rcases h with rfl|rfl
 ·rfl
 ·rfl
theorem CO{to k tc td ic id:Int}{pd ad:DV}{p:aZ}(hp:J3 pd p)(ha:LW ad)(tag:Bool)(h:aA)(n:Nat)(hn:21≤n):resolve tag h n (P6 to k tc td ic id pd ad)=some (jA ⟨to,k,⟨tc,td⟩,⟨ic,id⟩,p⟩):=by
 obtain⟨m,rfl⟩:∃ m,n=m+1:=⟨n-1,by omega⟩
 obtain⟨q,rfl⟩:∃ q,m=q+1:=⟨m-1,by omega⟩
 have h1:=hp.res tag h (q+1) (by omega)
 have h2:=ha.res tag h (q+1) (by omega)
 unfold P6 jA
 rw[E5]
 simp[h1,h2]
theorem qF.one{to k tc td ic id:Int}{pd ad:DV}{p:aZ}(hp:J3 pd p)(ha:LW ad):qF [P6 to k tc td ic id pd ad] [⟨to,k,⟨tc,td⟩,⟨ic,id⟩,p⟩] :=
 ⟨rfl,fun tag h n hn=>by simp only[List.mapM_cons,List.mapM_nil,CO hp ha tag h n hn];rfl⟩
theorem mP(o:iW):iQ 20 (jA o)∧Unl 22 (jA o):=⟨lC (by
  intro x hx
  simp only[List.mem_cons,List.not_mem_nil,or_false]at hx
  rcases hx with rfl|rfl|rfl|rfl|rfl|rfl|rfl|rfl
  all_goals first|exact hZ _ _|exact nM false 5 aW o.pred|exact fun t h m hm=>by obtain⟨q,rfl,_⟩:=cL hm;rfl),mL (by
  intro x hx
  simp only[List.mem_cons,List.not_mem_nil,or_false]at hx
  rcases hx with rfl|rfl|rfl|rfl|rfl|rfl|rfl|rfl
  all_goals first|exact(oY _ _).mono (by decide)|exact(uM o.pred).mono (by decide)|exact fun n hn=>by obtain⟨q,rfl,_⟩:=cL (k:=20) hn;simp[bE])⟩
theorem Dr{lo:Nat}{h:aA}{v:DV}{ety:Nat}{es:List DV}{os:List iW}(w:OwnR lo h v ety 8 es)(r:qF es os)(tag:Bool){n:Nat}(hn:22≤n):resolve tag h n v=some (eL tag 8 jA os):=by
 obtain⟨m,rfl,hm⟩:=cL (k:=21) hn
 cases w with
 | nil hv hx =>
  subst hv;subst hx
  have:os=[]:=List.length_eq_zero_iff.1 r.1.symm
  subst this;rfl
 | arr id sp cap hv hg hl hi =>
  subst hv
  have zU:=r.2 tag h m hm
  simp only[Dm.resolve,hg,true_and,Nat.zero_add,List.length_append,Nat.le_add_right,if_true,List.drop_zero,List.take_left,zU]
  rfl
end Go.Dm.Tc
