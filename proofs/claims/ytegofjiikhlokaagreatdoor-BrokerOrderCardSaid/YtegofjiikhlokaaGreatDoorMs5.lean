/- A part of the proof. -/
import Derived.Test.YtegofjiikhlokaaGreatDoorMs4
set_option linter.all false
namespace Go.Dm.Tc
theorem Ls{α:Type}{r:α→α→Prop}(irr:∀a,¬r a a)(asym:∀a b,r a b→¬r b a):∀{A B:List α},A.Pairwise r→B.Pairwise r→(∀x,x∈A↔x∈B)→A=B
 | [],[],_,_,_=>rfl
 | [],b::B,_,_,h=>absurd ((h b).2 (List.mem_cons_self ..)) (by simp)
 | a::A,[],_,_,h=>absurd ((h a).1 (List.mem_cons_self ..)) (by simp)
 | a::A,b::B,hA,hB,h=>by
  rw[List.pairwise_cons]at hA hB
  have QM:a=b:=by
   apply Classical.byContradiction
   intro eG
   have h1:=(List.mem_cons.1 ((h a).1 (List.mem_cons_self ..))).resolve_left eG
   have h2:=(List.mem_cons.1 ((h b).2 (List.mem_cons_self ..))).resolve_left (fun e=>eG e.symm)
   exact asym _ _ (hA.1 _ h2) (hB.1 _ h1)
  subst QM
  congr 1
  refine Ls irr asym hA.2 hB.2 fun x=>⟨fun hx=>?_,fun hx=>?_⟩
  ·refine(List.mem_cons.1 ((h x).1 (List.mem_cons_of_mem _ hx))).resolve_left fun e=>?_
   subst e;exact irr _ (hA.1 _ hx)
  ·refine(List.mem_cons.1 ((h x).2 (List.mem_cons_of_mem _ hx))).resolve_left fun e=>?_
   subst e;exact irr _ (hB.1 _ hx)
theorem AaD{A B:List bC}(hA:dU (A.map (·.id)))(hB:dU (B.map (·.id)))(h:∀x,x∈A↔x∈B):A=B :=
 Ls (r:=fun a b:bC=>bW a.id b.id<0) (fun a h=>by rw[fZ]at h;omega) (fun a b h1 h2=>by rw[fZ]at h1 h2;omega) (List.pairwise_map.1 hA) (List.pairwise_map.1 hB) h
theorem i8{A B:List ID}(hA:dU A)(hB:dU B)(h:∀x,x∈A↔x∈B):A=B :=
 Ls (r:=fun a b:ID=>bW a b<0) (fun a h=>by rw[fZ]at h;omega) (fun a b h1 h2=>by rw[fZ]at h1 h2;omega) hA hB h
theorem OX{A B:List aV}(hA:eY A)(hB:eY B)(h:∀x,x∈A↔x∈B):A=B :=
 Ls (r:=fun a b:aV=>eW b.tree b.sub a<0) (fun a h=>by rw[sU,jF,jF]at h;rw[ID.ext']at h;omega) (fun a b h1 h2=>by rw[sU,jF,jF]at h1 h2;rw[ID.ext']at h1 h2;omega) hA hB h
theorem Tl{T:ID}{l:List aV}{e:aV}:e∈ofT T l↔e∈l∧e.tree=T:=by unfold ofT;rw[List.mem_filter];simp
theorem Ke{T:ID}{l:List aV}(h:eY l):eY (ofT T l):=List.Pairwise.sublist (List.filter_sublist ..) h
theorem AeE{T:ID}{A B:List aV}(hA:eY A)(hB:eY B)(h:∀x,x.tree=T→(x∈A↔x∈B)):ofT T A=ofT T B :=
 OX (Ke hA) (Ke hB) fun x=>by rw[Tl,Tl];exact⟨fun q=>⟨(h x q.2).1 q.1,q.2⟩,fun q=>⟨(h x q.2).2 q.1,q.2⟩⟩
structure dX(T:ID)(b c:aF):Prop where
 me:b.me=c.me
 aL:b.aL=c.aL
 bU:b.bU=c.bU
 adv:fR b T=fR c T
 seen:T∈b.seen↔T∈c.seen
 ent:∀e:aV,e.tree=T→(e∈b.entries↔e∈c.entries)
theorem dX.refl(T:ID)(b:aF):dX T b b:=⟨rfl,rfl,rfl,rfl,Iff.rfl,fun _ _=>Iff.rfl⟩
theorem dX.symm{T:ID}{b c:aF}(h:dX T b c):dX T c b:=⟨h.me.symm,h.aL.symm,h.bU.symm,h.adv.symm,h.seen.symm,fun e he=>(h.ent e he).symm⟩
theorem dX.trans{T:ID}{b c d:aF}(h:dX T b c)(k:dX T c d):dX T b d:=⟨h.me.trans k.me,h.aL.trans k.aL,h.bU.trans k.bU,h.adv.trans k.adv,h.seen.trans k.seen,fun e he=>(h.ent e he).trans (k.ent e he)⟩
theorem dX.all{b c:aF}(hb:bT b)(hc:bT c)(h:∀T,dX T b c):b=c:=by
 have ha:b.aR=c.aR:=AaD hb.ra hc.ra fun a=>by
  have:=(h a.id).adv
  constructor
  ·intro ha;have e:=(jQ hb.ra).2 ⟨ha,rfl⟩;rw[this]at e;exact((jQ hc.ra).1 e).1
  ·intro ha;have e:=(jQ hc.ra).2 ⟨ha,rfl⟩;rw[←this]at e;exact((jQ hb.ra).1 e).1
 have hs:b.seen=c.seen:=i8 hb.rs hc.rs fun x=>(h x).seen
 have he:b.entries=c.entries:=OX hb.re hc.re fun e=>(h e.tree).ent e rfl
 have h1:=(h ⟨0,0⟩).me
 have h2:=(h ⟨0,0⟩).aL
 have h3:=(h ⟨0,0⟩).bU
 cases b;cases c
 simp only at ha hs he h1 h2 h3
 subst ha;subst hs;subst he;subst h1;subst h2;subst h3
 rfl
theorem dX.of{T:ID}{b c:aF}(hb:bT b)(hc:bT c)(h:dX T b c):ofT T b.entries=ofT T c.entries:=AeE hb.re hc.re h.ent
theorem dX.bO{T:ID}{b c:aF}(h:dX T b c):dO b T=dO c T:=by rw[eN,eN,h.adv]
theorem dX.covered{T:ID}{b c:aF}(h:dX T b c)(p:bI):cD b.entries T p=cD c.entries T p:=by
 rw[Bool.eq_iff_iff,jJ,jJ]
 exact⟨fun⟨e,he,h1,h2⟩=>⟨e,(h.ent e h1).1 he,h1,h2⟩,fun⟨e,he,h1,h2⟩=>⟨e,(h.ent e h1).2 he,h1,h2⟩⟩
theorem dX.find{T:ID}{b c:aF}(hb:bT b)(hc:bT c)(h:dX T b c)(s:ID):Gm b T s=Gm c T s:=by
 cases hf:Gm b T s with
 | none =>
  symm;rw[Lw]at hf ⊢
  exact fun e he k=>hf e ((h.ent e k.1).2 he) k
 | some e =>
  symm
  have:=(Lv hb.re).1 hf
  exact(Lv hc.re).2 ⟨(h.ent e this.2.1).1 this.1,this.2⟩
theorem NG{T:ID}{b c:aF}(h:dX T b c){e:aV}(he:e.tree=T):iZ b e=iZ c e:=by
 rw[Bool.eq_iff_iff,vP,vP,he,h.adv]
 have:(∀x∈b.entries,isE T e.sub x=false)↔(∀x∈c.entries,isE T e.sub x=false):=by
  constructor
  ·intro k x hx
   rw[vT];intro q
   exact vT.1 (k x ((h.ent x q.1).2 hx)) q
  ·intro k x hx
   rw[vT];intro q
   exact vT.1 (k x ((h.ent x q.1).1 hx)) q
 constructor
 ·rintro⟨a,h1,h2,h3⟩;exact⟨a,h1,this.1 h2,h3⟩
 ·rintro⟨a,h1,h2,h3⟩;exact⟨a,h1,this.2 h2,h3⟩
theorem D3{T:ID}{b c:aF}(h:dX T b c){e:aV}(he:e.tree=T):(dY b e).2=(dY c e).2∧dX T (dY b e).1 (dY c e).1:=by
 have hu:qN b e=qN c e:=by unfold qN;rw[he,h.bO,h.covered]
 unfold dY
 rw[NG h he,hu]
 split
 ·refine⟨rfl,⟨h.me,h.aL,h.bU,h.adv,h.seen,fun x hx=>?_⟩⟩
  simp only[qE]
  rw[h.ent x hx]
 ·exact⟨rfl,h⟩
theorem Pr{T:ID}(b:aF){e:aV}(he:e.tree≠T):dX T (dY b e).1 b:=by
 unfold dY
 split
 ·refine⟨rfl,rfl,rfl,rfl,Iff.rfl,fun x hx=>?_⟩
  simp only[qE]
  exact⟨fun k=>k.resolve_left fun q=>he (by rw[q]at hx;exact hx),.inr⟩
 ·exact .refl ..
theorem Pq{T:ID}(q:Int)(p:bI):∀(l:List fV) (s t:aF×List iR),dX T s.1 t.1→s.2=t.2→(l.foldl (bV q T p) s).2=(l.foldl (bV q T p) t).2∧dX T (l.foldl (bV q T p) s).1 (l.foldl (bV q T p) t).1
 | [],s,t,h,e=>⟨e,h⟩
 | o::r,s,t,h,e=>by
  rw[List.foldl_cons,List.foldl_cons]
  obtain⟨h1,h2⟩:=D3 h (e:=⟨T,o.id,o.pred,-1,false⟩) rfl
  refine Pq q p r _ _ ?_ ?_
  ·unfold bV;split
   ·exact h2
   ·exact h
  ·unfold bV;split
   ·simp only;rw[h1,e]
   ·exact e
theorem Mp{T x:ID}(hx:x≠T)(q:Int)(p:bI):∀(l:List fV) (s:aF×List iR),dX T (l.foldl (bV q x p) s).1 s.1
 | [],s=>.refl ..
 | o::r,s=>by
  rw[List.foldl_cons]
  refine(Mp hx q p r _).trans ?_
  unfold bV;split
  ·exact Pr _ hx
  ·exact .refl ..
theorem R1{T:ID}{b c:aF}(hb:bT b)(hc:bT c)(h:dX T b c)(q:Int)(p:bI)(hs:T ∉ b.seen):dX T (bH b ⟨T,p,q⟩).1 (bH c ⟨T,p,q⟩).1:=by
 have Av:T ∉ c.seen:=fun k=>hs (h.seen.2 k)
 have e1:=qJ hb ⟨T,p,q⟩ hs T
 have e2:=qJ hc ⟨T,p,q⟩ Av T
 rw[if_pos rfl]at e1 e2
 refine⟨?_,?_,?_,by rw[e1,e2],?_,?_⟩
 all_goals (unfold bH;rw[if_neg hs,if_neg Av])
 ·exact h.me
 ·exact h.aL
 ·exact h.bU
 ·simp only[nB,true_or]
 ·exact h.ent
theorem Yr{T x:ID}{b:aF}(hb:bT b)(hx:x≠T)(q:Int)(p:bI):dX T (bH b ⟨x,p,q⟩).1 b:=by
 by_cases hs:x∈b.seen
 ·unfold bH;rw[if_pos hs];exact .refl ..
 ·have e1:=qJ hb ⟨x,p,q⟩ hs T
  rw[if_neg hx]at e1
  refine⟨?_,?_,?_,e1,?_,?_⟩
  all_goals (unfold bH;rw[if_neg hs])
  ·simp only[nB]
   exact⟨fun k=>k.resolve_left fun q=>hx q.symm,.inr⟩
  ·exact fun _ _=>Iff.rfl
theorem PZ{T:ID}{b c:aF}(hb:bT b)(hc:bT c)(h:dX T b c)(q:Int)(p:bI):(bK b q T p).2=(bK c q T p).2∧dX T (bK b q T p).1 (bK c q T p).1:=by
 by_cases hs:T∈b.seen
 ·rw[Ww q p hs,Ww q p (h.seen.1 hs)];exact⟨rfl,h⟩
 ·have Av:T ∉ c.seen:=fun k=>hs (h.seen.2 k)
  have e1:(bH b ⟨T,p,q⟩).2=true:=by unfold bH;rw[if_neg hs]
  have e2:(bH c ⟨T,p,q⟩).2=true:=by unfold bH;rw[if_neg Av]
  unfold bK
  rw[if_pos e1,if_pos e2,h.bU,h.aL]
  exact Pq q p c.bU _ _ (R1 hb hc h q p hs) rfl
theorem IK{T x:ID}{b:aF}(hb:bT b)(hx:x≠T)(q:Int)(p:bI):dX T (bK b q x p).1 b:=by
 unfold bK
 split
 ·exact(Mp hx q p b.bU _).trans (Yr hb hx q p)
 ·exact .refl ..
theorem F5{T:ID}{b c:aF}(hb:bT b)(hc:bT c)(h:dX T b c)(q:Int):(bN b q T).2=(bN c q T).2∧dX T (bN b q T).1 (bN c q T).1:=by
 have ha:(b.aR.find? fun a=>a.id=T)=c.aR.find? fun a=>a.id=T:=h.adv
 unfold bN bX
 rw[ha]
 cases hf:c.aR.find? (fun a=>a.id=T)with
 | none=>exact⟨rfl,h⟩
 | some a =>
  by_cases hp:a.bO=q
  ·simp only[if_pos hp,if_true]
   refine⟨by rw[h.aL],⟨h.me,h.aL,h.bU,?_,h.seen,fun e he=>?_⟩⟩
   ·rw[show fR {b with aR:=bM (fun a:bC=>a.id) T b.aR,entries:=bM (fun e:aV=>e.tree) T b.entries} T=none from Dn (key:=fun a:bC=>a.id) T b.aR]
    exact(Dn (key:=fun a:bC=>a.id) T c.aR).symm
   ·exact⟨fun k=>absurd he (lK k).2,fun k=>absurd he (lK k).2⟩
  ·simp only[if_neg hp];exact⟨rfl,h⟩
theorem Vh{T x:ID}{b:aF}(hb:bT b)(hx:x≠T)(q:Int):dX T (bN b q x).1 b:=by
 unfold bN bX
 cases hf:b.aR.find? (fun a=>a.id=x)with
 | none=>exact .refl ..
 | some a =>
  by_cases hp:a.bO=q
  ·simp only[if_pos hp,if_true]
   refine⟨rfl,rfl,rfl,?_,Iff.rfl,fun e he=>?_⟩
   ·exact tQ hb.ra rfl (fun k=>hx k.symm)
   ·exact⟨fun k=>(lK k).1,fun k=>fP.2 ⟨k,fun q=>hx (q.symm.trans he)⟩⟩
  ·simp only[if_neg hp];exact .refl ..
theorem KU{T:ID}{b c:aF}(h:dX T b c)(q:Int)(s:ID)(p:bI):(gJ b q T s p).2=(gJ c q T s p).2∧dX T (gJ b q T s p).1 (gJ c q T s p).1:=by
 obtain⟨h1,h2⟩:=D3 h (e:=⟨T,s,p,q,false⟩) rfl
 unfold gJ
 refine⟨?_,h2⟩
 simp only
 rw[h1,h.bO]
theorem AeD(T:ID)(l:List aV):ofT T (ofT T l)=ofT T l:=by unfold ofT;rw[List.filter_filter];congr 1;funext a;simp
theorem yP(T:ID)(e:aV)(l:List aV):ofT T (e::l)=if e.tree=T then e::ofT T l else ofT T l:=by
 unfold ofT;by_cases h:e.tree=T<;>simp[h]
theorem V2(T:ID)(l:List aV)(p:bI):cD (ofT T l) T p=cD l T p:=by unfold cD;rw[AeD]
theorem wW(T:ID):∀(r done gN:List aV),(cQ T done r gN).2=(cQ T (ofT T done) (ofT T r) gN).2∧ofT T (cQ T done r gN).1=(cQ T (ofT T done) (ofT T r) gN).1
 | [],done,gN=>by unfold cQ;simp[ofT,cQ]
 | e::r,done,gN=>by
  by_cases ht:e.tree=T
  ·rw[yP,if_pos ht]
   have hc:cD (ofT T done++e::ofT T r) T e.pred=cD (done++e::r) T e.pred:=by
    rw[←V2 T (done++e::r),Ez,yP,if_pos ht]
   unfold cQ
   rw[hc]
   split
   ·have ih:=wW T r (done++[{e with up:=true}]) (gN++[{e with up:=true}])
    rw[Ez,yP,if_pos (show({e with up:=true}:aV).tree=T from ht)]at ih
    exact ih
   ·have ih:=wW T r (done++[e]) gN
    rw[Ez,yP,if_pos ht]at ih
    exact ih
  ·rw[yP,if_neg ht]
   have ih:=wW T r (done++[e]) gN
   rw[Ez,yP,if_neg ht]at ih
   have e1:cQ T done (e::r) gN=cQ T (done++[e]) r gN:=by
    conv=>lhs;unfold cQ
    rw[if_neg (fun k=>ht k.1)]
   have e2:ofT T done++ofT T []=ofT T done:=by simp[ofT]
   rw[e1]
   rw[e2]at ih
   exact ih
theorem Pj(T:ID)(f:aV→Bool)(l:List aV):ofT T (l.filter f)=(ofT T l).filter f:=by
 unfold ofT;rw[List.filter_filter,List.filter_filter];congr 1;funext a;rw[Bool.and_comm]
theorem Su{T t:ID}(ht:t≠T){a a':List aV}(h:gC t a a'){e:aV}(he:e.tree=T):e∈a'↔e∈a:=by
 constructor
 ·intro k
  rcases h.mem k with q|⟨x,_,hx,_,q⟩
  ·exact q
  ·exfalso;apply ht;rw[←hx,←he,q]
 ·intro k
  rcases h.of_mem k with q|⟨hx,_⟩
  ·exact q
  ·exact absurd (hx.symm.trans he) ht
theorem G2{T t:ID}{b:aF}(hb:bT b)(ht:t≠T)(s:ID)(q:Int):dX T (cF b t s q).1 b:=by
 have hf:∀e:aV,e.tree=T→(e∈b.entries.filter (fun x=>!isE t s x)↔e∈b.entries):=fun e he=>by
  rw[List.mem_filter]
  refine⟨fun k=>k.1,fun k=>⟨k,?_⟩⟩
  have:isE t s e=false:=vT.2 fun q=>ht (q.1.symm.trans he)
  simp[this]
 rcases lM hb t s q with⟨h1,_⟩|⟨e,_,_,_,_,h1⟩|⟨e,_,_,_,_,r',u',h1,h2,_⟩
 ·rw[h1];exact .refl ..
 ·rw[h1];exact⟨rfl,rfl,rfl,rfl,Iff.rfl,hf⟩
 ·rw[h1];exact⟨rfl,rfl,rfl,rfl,Iff.rfl,fun e he=>(Su ht h2 he).trans (hf e he)⟩
theorem CJ{T:ID}{b c:aF}(hb:bT b)(hc:bT c)(h:dX T b c)(s:ID)(q:Int):(cF b T s q).2=(cF c T s q).2∧dX T (cF b T s q).1 (cF c T s q).1:=by
 have hf:b.entries.find? (isE T s)=c.entries.find? (isE T s):=h.find hb hc s
 have ho:=h.of hb hc
 have hq:∀x y:List aV,ofT T x=ofT T y→∀e:aV,e.tree=T→(e∈x↔e∈y):=fun x y k e he=>by
  have h1:e∈ofT T x↔e∈x:=by rw[Tl];exact⟨fun q=>q.1,fun q=>⟨q,he⟩⟩
  have h2:e∈ofT T y↔e∈y:=by rw[Tl];exact⟨fun q=>q.1,fun q=>⟨q,he⟩⟩
  rw[←h1,←h2,k]
 have wJ:ofT T (b.entries.filter fun x=>!isE T s x)=ofT T (c.entries.filter fun x=>!isE T s x):=by rw[Pj,Pj,ho]
 unfold cF
 rw[hf]
 cases c.entries.find? (isE T s)with
 | none=>exact⟨rfl,h⟩
 | some e =>
  by_cases hp:e.bL=q
  ·simp only[if_pos hp]
   cases hu:e.up with
   | true =>
    simp only[if_true]
    obtain⟨b1,b2⟩:=wW T (b.entries.filter fun x=>!isE T s x) [] []
    obtain⟨c1,c2⟩:=wW T (c.entries.filter fun x=>!isE T s x) [] []
    rw[wJ]at b1 b2
    refine⟨by rw[b1,c1],⟨h.me,h.aL,h.bU,h.adv,h.seen,hq _ _ (by rw[b2,c2])⟩⟩
   | false =>
    simp only[Bool.false_eq_true,if_false]
    exact⟨trivial,⟨h.me,h.aL,h.bU,h.adv,h.seen,hq _ _ wJ⟩⟩
  ·simp only[if_neg hp];exact⟨trivial,h⟩
theorem OY{T:ID}{b c:aF}(hb:bT b)(hc:bT c)(h:dX T b c)(q:Int)(s:ID):(eT b T s q).2=(eT c T s q).2∧dX T (eT b T s q).1 (eT c T s q).1:=by
 obtain⟨h1,h2⟩:=CJ hb hc h s q
 rw[jI,jI]
 refine⟨?_,h2⟩
 unfold eT
 rw[h1,h.bO]
 split<;>rfl
theorem El{T:ID}{b c:aF}(hb:bT b)(hc:bT c)(h:dX T b c)(q k:Int)(s:ID)(p:bI):(dS b q k T s p).2=(dS c q k T s p).2∧dX T (dS b q k T s p).1 (dS c q k T s p).1:=by
 unfold dS
 split
 ·exact PZ hb hc h q p
 ·split
  ·exact F5 hb hc h q
  ·split
   ·exact KU h q s p
   ·exact OY hb hc h q s
theorem nD{T x:ID}{b:aF}(hb:bT b)(hx:x≠T)(q k:Int)(s:ID)(p:bI):dX T (dS b q k x s p).1 b:=by
 unfold dS
 split
 ·exact IK hb hx q p
 ·split
  ·exact Vh hb hx q
  ·split
   ·exact Pr b hx
   ·rw[jI];exact G2 hb hx s q
theorem swap{b:aF}(hb:bT b){T U:ID}(hn:T≠U){a c i j:Int}{s t:ID}{p r:bI}(ha:fE b a=true)(hc:fE b c=true)(hp:bZ p)(hr:bZ r){n:Nat}(z:SzK b n) :
  (dS (dS b a i T s p).1 c j U t r).1=(dS (dS b c j U t r).1 a i T s p).1∧(dS (dS b a i T s p).1 c j U t r).2=(dS b c j U t r).2∧(dS (dS b c j U t r).1 a i T s p).2=(dS b a i T s p).2:=by
 obtain⟨k1,z1⟩:=tW (k:=i) (t:=T) (s:=s) hb z ha hp
 obtain⟨k2,z2⟩:=tW (k:=j) (t:=U) (s:=t) hb z hc hr
 have v1:∀V,T≠V→dX V (dS b a i T s p).1 b:=fun V h=>nD hb h a i s p
 have v2:∀V,U≠V→dX V (dS b c j U t r).1 b:=fun V h=>nD hb h c j t r
 have l1:fE (dS b a i T s p).1 c=true:=by unfold fE at hc ⊢;rw[(v1 ⟨T.aS+1,0⟩ (fun e=>by have:=congrArg ID.aS e;simp at this;omega)).aL];exact hc
 have l2:fE (dS b c j U t r).1 a=true:=by unfold fE at ha ⊢;rw[(v2 ⟨U.aS+1,0⟩ (fun e=>by have:=congrArg ID.aS e;simp at this;omega)).aL];exact ha
 obtain⟨k3,_⟩:=tW (k:=j) (t:=U) (s:=t) k1 z1 l1 hr
 obtain⟨k4,_⟩:=tW (k:=i) (t:=T) (s:=s) k2 z2 l2 hp
 obtain⟨o1,w1⟩:=El k1 hb (v1 U hn) c j t r
 obtain⟨o2,w2⟩:=El k2 hb (v2 T fun e=>hn e.symm) a i s p
 refine⟨dX.all k3 k4 fun V=>?_,o1,o2⟩
 by_cases hV:V=T
 ·subst hV
  exact(nD k1 (fun e=>hn e.symm) c j t r).trans w2.symm
 ·by_cases hW:V=U
  ·subst hW
   exact w1.trans (nD k2 hn a i s p).symm
  ·exact(nD k1 (fun e=>hW e.symm) c j t r).trans ((v1 V fun e=>hV e.symm).trans ((nD k2 (fun e=>hV e.symm) a i s p).trans (v2 V fun e=>hW e.symm)).symm)
end Go.Dm.Tc
namespace Go.Dm.Tc
theorem TC(b:aF)(q:Int)(t s:ID)(p:bI):(gJ b q t s p).2.length≤1:=by
 unfold gJ
 simp only
 split<;>simp
theorem U9{b:aF}(h:bT b)(t s:ID)(q:Int):∀o∈(eT b t s q).2,o.pred.length≤1000000:=by
 unfold eT
 split
 ·intro o ho
  simp only at ho
  rcases List.mem_append.1 ho with ho|ho
  ·unfold jX at ho
   obtain⟨e,he,rfl⟩:=List.mem_map.1 ho
   rcases lM h t s q with⟨hc,_⟩|⟨_,_,_,_,_,hc⟩|⟨_,_,_,_,_,r',u',hc,_,_,sK⟩
   ·rw[hc]at he;cases he
   ·rw[hc]at he;cases he
   ·rw[hc]at he
    have:=(List.mem_filter.1 (sK e he).2.2.2.1).1
    exact Nat.le_trans (h.pe _ this).len (by decide)
  ·rw[List.mem_singleton.1 ho];exact Nat.zero_le _
 ·intro o ho;cases ho
theorem MW(b:aF)(q:Int)(t s:ID){p:bI}(hp:bZ p):Mr (gJ b q t s p).2:=by
 have h1:=TC b q t s p
 refine⟨?_,by omega⟩
 unfold gJ
 simp only
 split
 ·intro o ho
  rw[List.mem_singleton.1 ho]
  exact Nat.le_trans hp.len (by decide)
 ·intro o ho;cases ho
theorem UZ{b:aF}{n:Nat}(h:bT b)(z:SzK b n)(hn:n≤300)(t s:ID)(q:Int):Mr (eT b t s q).2 :=
 ⟨U9 h t s q,by have:=Lz h t s q;have:=z.ent;have:=Nat.mul_le_mul hn hn;omega⟩
theorem RO{b:aF}{n:Nat}(h:bT b)(z:SzK b n)(hn:n≤300)(q k:Int)(t s:ID){p:bI}(hp:bZ p):Mr (dS b q k t s p).2:=by
 unfold dS
 split
 ·exact Uw h z hn q t hp
 ·split
  ·exact Ij z q t
  ·split
   ·exact MW b q t s hp
   ·exact UZ h z hn t s q
end Go.Dm.Tc
namespace Go.Dm.Tc
structure Acts(b:aF)(q:Int)(m:Msg)(c:aF)(o g:DV):Prop where
 run:pcF D t10 [aH .none b,.int .i64 q,sQ m]=some (.tup [aH .none c,o,g])
 outs:pcF D t12 [o,o]=some (.bool true)
 gots:pcF D t13 [g,g]=some (.bool true)
 ro:∀tg h,resolve tg h 200 o=some o
 rg:∀tg h,resolve tg h 200 g=some g
structure D6(m:Msg):Prop where
 kind:1≤m.kind∧m.kind≤5
 pred:bZ m.pred
 att:m.gI.length≤5∧(m.kind≠5→m.gI=[])
theorem AQ(x:Bt):D6 (uG x):=⟨Q5 x,Q4 x,Yk x⟩
def jT(b:aF)(q:Int)(m:Msg):aF:=if m.kind=5 then b else(dS b q m.kind m.tree m.id m.pred).1
theorem OM{b c:aF}{m:Msg}(hb:bT b)(hc:bT c)(h:dX m.tree b c){q:Int}{N C N' C':List Int}(p:CA b q m N C)(p':CA c q m N' C'):N=N'∧C=C':=by
 have strict_eq:∀{A B:List Int},jR A→jR B→(∀x,x∈A↔x∈B)→A=B:=fun hA hB k=>Ls (r:=(·<·)) (fun a=>by omega) (fun a b h1 h2=>by omega) hA hB k
 by_cases hy:∃ a,fR b m.tree=some a∧a.bO=q
 ·obtain⟨a,ha,hp⟩:=hy
  obtain⟨s1,m1,s2,m2⟩:=p.yes a ha hp
  obtain⟨s1',m1',s2',m2'⟩:=p'.yes a (by rw[←h.adv];exact ha) hp
  refine⟨strict_eq s1 s1' fun x=>?_,strict_eq s2 s2' fun x=>?_⟩
  ·rw[m1,m1',h.of hb hc]
  ·rw[m2,m2',h.bU]
 ·have n1:=p.no fun a ha hp=>hy ⟨a,ha,hp⟩
  have n2:=p'.no fun a ha hp=>hy ⟨a,by rw[h.adv];exact ha,hp⟩
  exact⟨n1.1.trans n2.1.symm,n1.2.trans n2.2.symm⟩
theorem Fa{b:aF}{n:Nat}(hi:bT b)(hz:SzK b n){q:Int}(hq:fE b q=true){m:Msg}(hm:D6 m):bT (jT b q m)∧SzK (jT b q m) (n+1):=by
 unfold jT
 split
 ·exact⟨hi,hz.mono (by omega)⟩
 ·exact tW hi hz hq hm.pred
theorem Kh{b:aF}(hi:bT b)(q:Int){m:Msg}{T:ID}(h:m.tree≠T):dX T (jT b q m) b:=by
 unfold jT
 split
 ·exact .refl ..
 ·exact nD hi h q m.kind m.id m.pred
theorem Oz{T:ID}{b c:aF}(h:dX T b c){q:Int}(hq:fE b q=true):fE c q=true:=by
 unfold fE at hq ⊢;rw[←h.aL];exact hq
theorem both{b c:aF}{n:Nat}(hb:bT b)(hc:bT c)(zb:SzK b n)(zc:SzK c n)(hn:n≤15){q:Int}(hq:fE b q=true){m:Msg}(hm:D6 m)(h:dX m.tree b c)(gQ:(ofT m.tree b.entries).length≤12)(ho:b.bU.length≤12) :
  ∃ o g,Acts b q m (jT b q m) o g∧Acts c q m (jT c q m) o g:=by
 have hqc:=Oz h hq
 obtain⟨hk,hp,ha⟩:=hm
 by_cases h5:m.kind=5
 ·obtain⟨N,C,r1,p1,n1,n2⟩:=p10 b q m h5 hb (zb.sized (by omega)) (by omega) gQ ho
  obtain⟨N',C',r2,p2,_,_⟩:=p10 c q m h5 hc (zc.sized (by omega)) (by omega) (by rw[←h.of hb hc];exact gQ) (by rw[←h.bU];exact ho)
  obtain⟨e1,e2⟩:=OM hb hc h p1 p2
  subst e1;subst e2
  have eb:jT b q m=b:=if_pos h5
  have ec:jT c q m=c:=if_pos h5
  rw[eb,ec]
  have o1:=x12 m hp.names.1 (by omega) N n1
  have o2:=x13 m (by omega) C n2
  exact⟨_,_,⟨r1,o1,o2,fun tg h=>eM _ _ _ _ tg h 200 (by decide),fun tg h=>eM _ _ _ _ tg h 200 (by decide)⟩,⟨r2,o1,o2,fun tg h=>eM _ _ _ _ tg h 200 (by decide),fun tg h=>eM _ _ _ _ tg h 200 (by decide)⟩⟩
 ·have BJ:m.kind=1∨m.kind=2∨m.kind=3∨m.kind=4:=by omega
  have wR:=ha.2 h5
  have sb:=s10 b q m.kind m.tree.aS m.tree.seq m.id.aS m.id.seq m.pred hb (KS zb (by omega) zb.own) hp hq (by have:=zb.adv;have:=zb.seen;omega) BJ
  have sc:=s10 c q m.kind m.tree.aS m.tree.seq m.id.aS m.id.seq m.pred hc (KS zc (by omega) zc.own) hp hqc (by have:=zc.adv;have:=zc.seen;omega) BJ
  have he:=(El hb hc h q m.kind m.id m.pred).1
  have eb:jT b q m=(dS b q m.kind m.tree m.id m.pred).1:=if_neg h5
  have ec:jT c q m=(dS c q m.kind m.tree m.id m.pred).1:=if_neg h5
  rw[eb,ec]
  obtain⟨k1,k2⟩:=RO hb zb (by omega) q m.kind m.tree m.id hp
  have o1:=s12 false false (dS b q m.kind m.tree m.id m.pred).2 k1 k2
  have o2:pcF D t13 [.isl false 0 [],.isl false 0 []]=some (.bool true):=by
   have:=x13 m (by omega) [] (by simp)
   simpa[hY]using this
  have em:sQ m=.agg [.int .i64 m.kind,.int .i64 m.tree.aS,.int .i64 m.tree.seq,.int .i64 m.id.aS,.int .i64 m.id.seq,bF m.pred,.isl false 0 []]:=by
   unfold sQ;rw[wR,hY]
  refine⟨eL false 8 fM (dS b q m.kind m.tree m.id m.pred).2,.isl false 0 [],⟨by rw[em];exact sb,o1,o2,fun tg h=>eM _ _ _ _ tg h 200 (by decide),fun tg h=>rfl⟩,⟨by rw[em,he];exact sc,o1,o2,fun tg h=>eM _ _ _ _ tg h 200 (by decide),fun tg h=>rfl⟩⟩
theorem FT{b:aF}{n:Nat}(hb:bT b)(z:SzK b n){m w:Msg}(hm:D6 m)(hw:D6 w)(eG:m.tree≠w.tree){a c:Int}(ha:fE b a=true)(hc:fE b c=true):jT (jT b a m) c w=jT (jT b c w) a m:=by
 unfold jT
 by_cases h1:m.kind=5
 ·rw[if_pos h1,if_pos h1]
 ·by_cases h2:w.kind=5
  ·rw[if_pos h2,if_pos h2]
  ·rw[if_neg h1,if_neg h1,if_neg h2,if_neg h2]
   exact(swap hb eG ha hc hm.pred hw.pred z).1
set_option maxRecDepth 16000 in
set_option maxHeartbeats 4000000 in
theorem r4(hR:pcF D t14 []=some (.bool true))(k:D9)(x y:Bt)(f g:Int)(hk:∀z∈k.steps,z.has.length≤9223372036854775807)(hx:x.has.length≤9223372036854775807)(hy:y.has.length≤9223372036854775807) :
  pcF D t4 [xY k,qH x,qH y,.int .i64 f,.int .i64 g]=some (.bool true):=by
 have hB:=s7 false k.aL k.steps hk
 have hM:=s9 x hx
 have hN:=s9 y hy
 obtain⟨hi,hz⟩:=Ur k.aL k.steps
 have htr:=W1 k.aL k.steps
 have iG:=C3 k.aL k.steps
 generalize wE k.aL k.steps=b at *
 have pm:=AQ x
 have pn:=AQ y
 generalize uG x=m at *
 generalize uG y=n at *
 have z:=hz.sized (by decide)
 have eG:=iG.ne
 have hnl:=hz.aL
 have w5:=s8 f 0 ((b.aL.length:Int)-1) (by omega) (by decide) (by omega)
 have b5:=cZ f (lo:=0) (hi:=(b.aL.length:Int)-1) (by omega)
 have w6:=s8 g 0 ((b.aL.length:Int)-1) (by omega) (by decide) (by omega)
 have b6:=cZ g (lo:=0) (hi:=(b.aL.length:Int)-1) (by omega)
 generalize aT f 0 ((b.aL.length:Int)-1)=F0 at *
 generalize aT g 0 ((b.aL.length:Int)-1)=G0 at *
 obtain⟨i,rfl⟩:∃ j:Nat,F0=j:=⟨F0.toNat,by omega⟩
 obtain⟨j,rfl⟩:∃ j:Nat,G0=j:=⟨G0.toNat,by omega⟩
 have hii:i<b.aL.length:=by omega
 have hjj:j<b.aL.length:=by omega
 have hwl:IntKind.i64.wrap ((b.aL.length:Int)-1)=(b.aL.length:Int)-1:=aX (by omega) (by omega)
 obtain⟨a,hfa⟩:∃ f,b.aL[i]=f:=⟨_,rfl⟩
 obtain⟨c,hfc⟩:∃ f,b.aL[j]=f:=⟨_,rfl⟩
 have ha:fE b a=true:=by unfold fE;rw[←hfa];simp
 have hc:fE b c=true:=by unfold fE;rw[←hfc];simp
 unfold pcF
 rw[aJ _ _ _ _ (by simp[t4])]
 by_cases ht:m.tree=n.tree
 ·have ht1:m.tree.aS=n.tree.aS:=by rw[ht]
  have ht2:m.tree.seq=n.tree.seq:=by rw[ht]
  simp only[sQ,qH]at hM hN
  simp[t4,xY,qH,e7,hB,e9,hM,hN,ht1,ht2,turn,e14,hR]
 ·obtain⟨kp,zp⟩:=Fa hi hz ha pm
  obtain⟨kr,zr⟩:=Fa hi hz hc pn
  have v1:dX n.tree b (jT b a m):=(Kh hi a ht).symm
  have v2:dX m.tree b (jT b c n):=(Kh hi c (fun e=>ht e.symm)).symm
  obtain⟨o1,g1,A1,A4⟩:=both hi kr (hz.mono (by decide:12≤13)) zr (by decide) ha pm v2 (htr m.tree) hz.own
  obtain⟨o2,g2,A3,A2⟩:=both hi kp (hz.mono (by decide:12≤13)) zp (by decide) hc pn v1 (htr n.tree) hz.own
  have hsw:=FT hi hz pm pn ht ha hc
  obtain⟨ks,zs⟩:=Fa kr zr (Oz v2 ha) pm
  have hSame:pcF D t16 [aH .none (jT (jT b c n) a m),aH .none (jT (jT b c n) a m)]=some (.bool true):=by
   have:=AfI (t:=.none) ks (zs.sized (by decide)) .none (jT (jT b c n) a m)
   simpa using this
  rw[hsw]at A2
  generalize jT (jT b c n) a m=s at *
  generalize jT b a m=p at *
  generalize jT b c n=r at *
  have eG:¬(m.tree.aS=n.tree.aS∧m.tree.seq=n.tree.seq):=fun q=>ht (by
   obtain⟨q1,q2⟩:=q
   cases hm:m.tree;cases hn:n.tree
   rw[hm,hn]at q1 q2
   simp only at q1 q2
   rw[q1,q2])
  obtain⟨ra1,oo1,og1,ro1,rg1⟩:=A1
  obtain⟨ra2,oo2,og2,ro2,rg2⟩:=A2
  have ra3:=A3.run
  have ra4:=A4.run
  simp only[sQ,qH]at hM hN ra1 ra2 ra3 ra4
  simp[t4,xY,qH,e7,hB,e9,hM,hN,turn,eG,e8,w5,w6,hwl,hii,hjj,hfa,hfc,bQ,e10,ra1,ra2,ra3,ra4,e16,hSame,e12,oo1,oo2,ro1,ro2,e13,og1,og2,rg1,rg2,e14,hR]
end Go.Dm.Tc
namespace Go.Dm.Tc
theorem s14:pcF D t14 []=some (.bool true):=oE (n:=5000) (args:=[]) e14 rfl (by kernel_rfl)
theorem s4(k:D9)(x y:Bt)(f g:Int)(hk:∀z∈k.steps,z.has.length≤9223372036854775807)(hx:x.has.length≤9223372036854775807)(hy:y.has.length≤9223372036854775807):pcF D t4 [xY k,qH x,qH y,.int .i64 f,.int .i64 g]=some (.bool true) :=
 r4 s14 k x y f g hk hx hy
end Go.Dm.Tc
