/- A part of the proof. -/
import Derived.Test.YtfkbogedodngeaaGreatMs1
import Derived.Test.YtfkbogedodngeaaGreatMs0
set_option linter.all false
set_option maxRecDepth 100000
namespace Go.Dm.Tc
theorem QZ(H:aA)(t:Bool)(sz:Nat)(x:DV)(xs:List DV):fC H sz (.isl t sz (x::xs)) (some (.int .i64 1)) none=some (.isl t sz xs):=by
 simp only[fC,true_or,if_true,uV]
 have:cG (some (.int .i64 1)) 0 (x::xs).length=some 1:=by
  simp[cG,asI]
  omega
 rw[this]
 simp
theorem SC(t:Bool)(sz:Nat)(x:DV)(xs:List DV):aS sz (.isl t sz (x::xs)) (.int .i64 0)=some (.iptr t (aF sz x) 0):=by simp[aS,asI]
theorem q62{h:aA}{q wid:Nat}{ways:List (Int×Int)}{W:ID→List Msg}(Q:QAt h q wid ways W)(wf:WF h){u v:Int}{m:Msg}{r:List Msg}(hm:W ⟨u,v⟩=m::r) :
  ∃ h',fc D 62 [.ptr q 2 0 0,.int .i64 u,.int .i64 v] h=some (.tup [kD m,.nili],h')∧QAt h' q wid ways (wC W ⟨u,v⟩ r)∧Upd h h' [q,wid] [q,wid]:=by
 obtain⟨ms,gw,rr⟩:=Q.gw
 have gq:=Q.gq
 have hqw:=Q.ne
 have OL:=Q.lw
 simp only[qO]at gq
 have Oa:h.lim≤h.n:=by have:=Q.lq;have:=aC gq;omega
 have hlm1:h.lim≤h.n+1:=by omega
 have zG:fW (.agg [1,1]) .nsl false (.agg [.int .i64 u,.int .i64 v]) (some (pA ms))=_:=tX rr.nd .nsl ⟨u,v⟩
 have Pj:=fun(H:aA) (hl:H.lim≤wid) (x:DV)=>E3 (h:=H) (id:=wid) rr.nd hl ⟨u,v⟩ x
 simp only[kID]at Pj
 have eV:=rr.row ⟨u,v⟩
 rw[hm]at eV
 generalize (qI ms ⟨u,v⟩).getD .nsl=v0 at zG eV
 obtain⟨sz,rfl,hs⟩:∃ sz,v0=.isl false sz ((m::r).map kD)∧sz=7:=by
  rcases eV with⟨_,h⟩|⟨sz,h1,h2⟩
  ·cases h
  ·exact⟨sz,h1,h2.resolve_right (by simp)⟩
 subst hs
 have lq:=aC gq
 have lw:=aC gw
 have nq:¬q=h.n:=by omega
 have nw:¬wid=h.n:=by omega
 have nq1:¬q=h.n+1:=by omega
 have nw1:¬wid=h.n+1:=by omega
 have lw1:wid<h.n+1:=by omega
 have hz:¬((r.length:Int)+1=0):=by omega
 rw[e62,aM _ _ _ _ (by simp[t62])]
 simp[t62,gq,gw,nq,nw,nq1,nw1,wf,turn,eW,gT,zG,Oa,hlm1,hz,kJ,Pj,OL,lw,lw1,kD,QZ,SC,aV]
 refine⟨⟨?_,⟨_,?_,rr.put ⟨u,v⟩ (.inr ⟨7,rfl,.inl rfl⟩)⟩,OL,Q.lq⟩,(((Upd.refl wf _).set (.inl (by simp)) lw).push _).push _⟩
 ·have cQ:¬q=wid:=hqw
  simp[qO,nq,nq1,cQ,wf,lw,gq]
 ·simp[nw,nw1,wf,lw]
def fY(W:ID→List Msg)(ways:List (Int×Int)):List (Int×Int):=ways.filter fun w=>!(W ⟨w.1,w.2⟩).isEmpty
theorem yC.lenV{v:DV}{l:List Msg}(r:yC v l)(h:aA):Dm.lenV h 1 v=some (.int .i64 l.length):=by
 rcases r with⟨rfl,rfl⟩|⟨sz,rfl,_⟩
 ·rfl
 ·simp[Dm.lenV]
theorem l59(P:Res→Prop){h0:aA}{q wid:Nat}{ways:List (Int×Int)}{W:ID→List Msg}(Q:QAt h0 q wid ways W)(hL:ways.length≤1000000) :
  ∀(rest pH:List (Int×Int)) (i:Nat) (f:dX) (h:aA),ways.drop i=rest→pH.length≤i→f 0=.ptr q 2 0 0→f 9=eL false 2 aT ways→f 10=.int .i64 ways.length→f 11=.int .i64 i→OwnR h0.n h (f 3) 76 2 (pH.map aT)→Ext h0.n h0 h →
  (∀F H,OwnR h0.n H (F 3) 76 2 ((pH++fY W rest).map aT)→Ext h0.n h0 H→P (run D 29 [] F5 F H)) →
  P (run D 29 [.block 0,.seq F5] (.loop F4) f h):=by
 intro rest
 induction rest with
 | nil =>
  intro pH i f h hd ha SW h9 rQ Ku ho hx dA
  have hi:=jT hd
  have:¬(i<ways.length):=by omega
  rw[aG F4.eq_1]
  simp[rQ,Ku,this]
  exact dA _ _ (by simpa[fY]using ho) hx
 | cons l rest ih =>
  intro pH i f h hd ha SW h9 rQ Ku ho hx dA
  obtain⟨hi,he,rB⟩:=lB hd
  obtain⟨ms,gw,r⟩:=Q.gw
  have gq:=Q.gq
  have lq:=aC gq
  have lw:=aC gw
  have OP:=(hx.get q lq).trans gq
  have hgw:=(hx.get wid lw).trans gw
  have bE:=hx.lim
  have hq:=Q.lq
  have hnh:=hx.le
  simp only[qO]at OP
  have nq:¬q=h.n:=by omega
  have nw:¬wid=h.n:=by omega
  have hw:IntKind.i64.wrap ((i:Int)+1)=(i:Int)+1:=bJ (by omega) (by omega)
  obtain⟨u,v⟩:=l
  have zG:fW (.agg [1,1]) .nsl false (.agg [.int .i64 u,.int .i64 v]) (some (pA ms))=_:=tX r.nd .nsl ⟨u,v⟩
  have eV:=r.row ⟨u,v⟩
  generalize (qI ms ⟨u,v⟩).getD .nsl=v0 at zG eV
  have bY:=fun h=>eV.lenV h
  have wfh:=hx.wf
  have Oa:h.lim≤h.n:=by omega
  rw[aG F4.eq_1]
  by_cases hc:W ⟨u,v⟩=[]
  ·have hB:fY W ((u,v)::rest)=fY W rest:=by simp[fY,hc]
   rw[hB]at dA
   rw[hc]at bY
   simp[SW,h9,rQ,Ku,hi,he,aT,Oa,OP,hgw,nq,nw,wfh,turn,eW,gT,zG,bY,hw]
   generalize hF:upd _ 11 _=F
   exact ih pH (i+1) F _ rB (by omega) (by rw[←hF];simp[SW]) (by rw[←hF];simp[h9]) (by rw[←hF];simp[rQ]) (by rw[←hF];simp) (by rw[←hF];simp;exact ho.push) hx.push dA
  ·have hB:fY W ((u,v)::rest)=(u,v)::fY W rest:=by simp[fY,hc]
   have hp:0<(W ⟨u,v⟩).length:=List.length_pos_iff.2 hc
   rw[hB,List.append_cons]at dA
   simp[SW,h9,rQ,Ku,hi,he,aT,Oa,OP,hgw,nq,nw,wfh,turn,eW,gT,zG,bY,hp]
   generalize hA:bB _ _ _ _ _ _=A
   obtain⟨w',h',rfl,Ab,oJ,_⟩:=ho.push.push.append hx.push.push.wf (hx.push.push.le) (by simp[bE];omega) hA (by simp;omega) (by decide)
   clear hA
   simp[Ku,hw]
   generalize hF:upd _ 11 _=F
   refine ih (pH++[(u,v)]) (i+1) F h' rB (by simp;omega) (by rw[←hF];simp[SW]) (by rw[←hF];simp[h9]) (by rw[←hF];simp[rQ]) (by rw[←hF];simp) (by rw[←hF];simp;simpa[aT]using Ab) (hx.push.push.trans oJ) dA
theorem q59{h:aA}{q wid:Nat}{ways:List (Int×Int)}{W:ID→List Msg}(Q:QAt h q wid ways W)(wf:WF h)(hL:ways.length≤1000000) :
  ∃ v h',fc D 59 [.ptr q 2 0 0] h=some (v,h')∧OwnR h.n h' v 76 2 ((fY W ways).map aT)∧Ext h.n h h':=by
 have gq:=Q.gq
 have lq:=aC gq
 simp only[qO]at gq
 rw[e59,aM _ _ _ _ (by simp[t59])]
 simp[t59,gq]
 generalize hF:upd _ 11 _=F
 refine l59 (fun r=>∃ v h',fin [.t 2] r=some (v,h')∧OwnR h.n h' v 76 2 ((fY W ways).map aT)∧Ext h.n h h') Q hL ways [] 0 F h rfl (Nat.zero_le _) (by rw[←hF];simp) (by rw[←hF];simp) (by rw[←hF];simp) (by rw[←hF];simp) (by rw[←hF];simp;exact .start _ _ _ _) (.refl (Nat.le_refl _) wf) fun F K o x=>?_
 rw[List.nil_append]at o
 refine⟨F 3,K,?_,o,x⟩
 simp[F5]
end Go.Dm.Tc
/-
Networks,part 4: all ways of a graph,sorted.
-/
namespace Go.Dm.Tc
def qP:List (Int×Int)→List (Int×Int)
 | []=>[]
 | l::r=>l::(l.2,l.1)::qP r
def bH(L:List (Int×Int)):List (Int×Int):=fZ ltP (qP L)
theorem yZ{u v:Int}:∀{L:List (Int×Int)},(u,v)∈qP L↔(u,v)∈L∨(v,u)∈L
 | []=>by simp[qP]
 | l::r=>by
  obtain⟨a,b⟩:=l
  simp only[qP,List.mem_cons,yZ (L:=r),Prod.mk.injEq]
  constructor
  ·rintro(h|h|h|h)
   ·exact .inl (.inl h)
   ·exact .inr (.inl ⟨h.2,h.1⟩)
   ·exact .inl (.inr h)
   ·exact .inr (.inr h)
  ·rintro((h|h)|(h|h))
   ·exact .inl h
   ·exact .inr (.inr (.inl h))
   ·exact .inr (.inl ⟨h.2,h.1⟩)
   ·exact .inr (.inr (.inr h))
theorem Du:∀L:List (Int×Int),(qP L).length=2*L.length
 | []=>rfl
 | l::r=>by simp[qP,Du r];omega
theorem bP.tail{m:Int}{l:Int×Int}{r:List (Int×Int)}(h:bP m (l::r)):bP m r:=⟨fun x hx=>h.rng x (List.mem_cons_of_mem _ hx),(List.pairwise_cons.1 h.nd).2⟩
theorem bP.wayL_nd{m:Int}:∀{L:List (Int×Int)},bP m L→(qP L).Nodup
 | [],_=>List.nodup_nil
 | (a,b)::r,h=>by
  obtain⟨h1,_⟩:=List.pairwise_cons.1 h.nd
  have hr:=h.rng (a,b) (List.mem_cons_self ..)
  have n1:(a,b) ∉ qP r:=fun hm=>by
   rcases yZ.1 hm with hm|hm
   ·exact(h1 _ hm).1 rfl
   ·exact(h1 _ hm).2 rfl
  have n2:(b,a) ∉ qP r:=fun hm=>by
   rcases yZ.1 hm with hm|hm
   ·exact(h1 _ hm).2 rfl
   ·exact(h1 _ hm).1 rfl
  simp only[qP,List.nodup_cons,List.mem_cons,not_or]
  refine⟨⟨fun e=>hr.2.2.2.2 ?_,n1⟩,n2,h.tail.wayL_nd⟩
  cases e;rfl
theorem tC(L:List (Int×Int)):(bH L).Perm (qP L):=tZ ltP _
theorem Yt{u v:Int}{L:List (Int×Int)}:(u,v)∈bH L↔(u,v)∈L∨(v,u)∈L:=(tC L).mem_iff.trans yZ
theorem jX(L:List (Int×Int)):(bH L).length=2*L.length:=(tC L).length_eq.trans (Du L)
theorem bP.waysOf_nd{m:Int}{L:List (Int×Int)}(h:bP m L):(bH L).Nodup:=(tC L).nodup_iff.2 h.wayL_nd
theorem YZ(id n:Nat)(L:List (Int×Int))(sp:List DV)(cap:Option Nat)(h:aA)(hl:h.lim≤id)(hn:n≤1000000)(hs:L.Nodup)(hL:L.length=n)(g:h.get id=some (.arr 76 2 (L.map aT++sp) cap))(wf:WF h) :
  ∀(j k:Nat) (f:dX),1≤k→k+j=n→f 0=.sl id 2 0 n→f 3=.int .i64 k →
  fin [.t 2] (run D 61 [.block 0,.seq Wk] (.loop Lt) f h)=some (.sl id 2 0 n,h):=by
 have LY:=aC g
 intro j
 induction j with
 | zero =>
  intro k f h1 hk h0 h3
  have Vo:k=n:=by omega
  subst Vo
  rw[aG Lt.eq_1]
  simp[h0,h3,Wk]
 | succ j ih =>
  intro k f h1 hk h0 h3
  have Vo:k<n:=by omega
  have hx:∀i,(hi:i<n)→(L.map aT++sp)[i]?=some (.agg [.int .i64 (L[i]'(by omega)).1,.int .i64 (L[i]'(by omega)).2]):=fun i hi=>by
   rw[List.getElem?_append_left (by simp;omega),List.getElem?_map,List.getElem?_eq_getElem (by omega)];rfl
  have Hi:=hx k Vo
  have Ki:=hx (k-1) (by omega)
  have Vl:IntKind.i64.wrap ((k:Int)-1)=((k-1:Nat):Int):=by rw[bJ (by omega) (by omega)];omega
  have SI:IntKind.i64.wrap ((k:Int)+1)=((k+1:Nat):Int):=by rw[bJ (by omega) (by omega)];omega
  have Y7:∀i:Nat,i<n→aS 2 (.sl id 2 0 n) (.int .i64 (i:Int))=some (.ptr id 2 i 0):=fun i hi=>by
   simp[aS,asI,hi]
  have sY:=Y7 k Vo
  have Zm:=Y7 (k-1) (by omega)
  have cQ:¬((L[k]'(by omega)).1=(L[k-1]'(by omega)).1∧(L[k]'(by omega)).2=(L[k-1]'(by omega)).2):=fun e=>by
   have:L[k]'(by omega)=L[k-1]'(by omega):=Prod.ext e.1 e.2
   exact List.pairwise_iff_getElem.1 hs (k-1) k (by omega) (by omega) (by omega) this.symm
  have hq:((L[k]'(by omega)).1 == (L[k-1]'(by omega)).1 && (L[k]'(by omega)).2 == (L[k-1]'(by omega)).2)=false:=by
   rw[Bool.and_eq_false_iff]
   by_cases h1:(L[k]'(by omega)).1=(L[k-1]'(by omega)).1
   ·exact .inr (by simpa using fun h2=>cQ ⟨h1,h2⟩)
   ·exact .inl (by simpa using h1)
  rw[aG Lt.eq_1]
  simp[h0,h3,g,Hi,Ki,LY,Vl,sY,Zm,Vo,hq,DB,SI]
  exact ih (k+1) _ (by omega) (by omega) (by simp[h0]) (by simp)
theorem YG(id:Nat)(L:List (Int×Int))(sp:List DV)(cap:Option Nat)(h:aA)(hl:h.lim≤id)(hn:L.length≤1000000)(hs:L.Nodup)(g:h.get id=some (.arr 76 2 (L.map aT++sp) cap))(wf:WF h) :
  fc D 134 [.sl id 2 0 L.length] h=some (.sl id 2 0 L.length,h):=by
 rw[WZ,aM _ _ _ _ (by simp[Qf])]
 by_cases h2:L.length<2
 ·have MQ:(L.length:Int)<2:=by omega
  simp[Qf,h2,MQ]
 ·have MQ:¬(L.length:Int)<2:=by omega
  simp[Qf,h2,MQ]
  exact YZ id L.length L sp cap h hl hn hs rfl g wf (L.length-1) 1 _ (by omega) (by omega) (by simp) (by simp)
theorem EW(h:aA):fc D 134 [.nsl] h=some (.nsl,h):=by
 rw[WZ,aM _ _ _ _ (by simp[Qf])]
 simp[Qf]
theorem YH(id:Nat)(sp:List DV)(cap:Option Nat)(h:aA)(L:List (Int×Int))(g:h.get id=some (.arr 76 2 (L.map aT++sp) cap))(hl:h.lim≤id)(hb:L.length≤1000000) :
  fc D 132 [.sl id 2 0 L.length,.func 133 []] h=some (.tup [],h.set id (.arr 76 2 ((fZ ltP L).map aT++sp) cap)) :=
 (XB _ h).trans (Bx (un:=unP) (mk:=aT) (lt:=ltP) (fun _=>rfl) g hl hb)
theorem EX(h:aA):fc D 132 [.nsl,.func 133 []] h=some (.tup [],h):=XB _ h
theorem ZC(P:Res→Prop)(t:Bool)(m:Int)(L:List (Int×Int))(hm:∀l∈L,xJ m l=true)(hL:L.length≤100000)(h0:aA)(g0:h0.get 0=some (.arr 66 2 [.agg [.int .i64 m,eL t 2 aT L]] (some 1)))(bE:h0.lim=0) :
  ∀(rest pH:List (Int×Int)) (i:Nat) (f:dX) (h:aA),L.drop i=rest→pH.length≤2*i→f 1=.ptr 0 2 0 0→f 7=eL t 2 aT L→f 8=.int .i64 L.length→f 9=.int .i64 i→OwnR 1 h (f 3) 76 2 (pH.map aT)→Ext 1 h0 h →
  (∀F H,OwnR 1 H (F 3) 76 2 ((pH++qP rest).map aT)→Ext 1 h0 H→P (run D 30 [] Eb F H)) →
  P (run D 30 [.block 0,.seq Eb] (.loop Lw) f h):=by
 intro rest
 induction rest with
 | nil =>
  intro pH i f h hd ha h1 h7 h8 h9 ho hx dA
  have hi:=jT hd
  have:¬(i<L.length):=by omega
  rw[aG Lw.eq_1]
  simp[h8,h9,this]
  exact dA _ _ (by simpa[qP]using ho) hx
 | cons l rest ih =>
  intro pH i f h hd ha h1 h7 h8 h9 ho hx dA
  obtain⟨hi,he,rB⟩:=lB hd
  have hlH:h.lim=0:=hx.lim.trans bE
  have Pl:=(hx.get 0 (by decide)).trans g0
  have hnh:=hx.le
  have n0:¬0=h.n:=by omega
  have hw:IntKind.i64.wrap ((i:Int)+1)=(i:Int)+1:=bJ (by omega) (by omega)
  have hf:∀h,resolve true h 199 (eL t 2 aT L)=some (eL t 2 aT L):=fun h=>eF _ _ _ _ true h 199 (by decide)
  obtain⟨u,v⟩:=l
  have wI:pcF D t98 [.agg [.int .i64 m,eL t 2 aT L],.agg [.int .i64 u,.int .i64 v]]=some (.bool true):=by
   have:=s98 t m L (u,v)
   rw[hm (u,v) (by rw[←List.take_append_drop i L,hd];simp)]at this
   exact this
  rw[aG Lw.eq_1]
  rw[show pH++qP ((u,v)::rest)=(pH++[(u,v),(v,u)])++qP rest by simp[qP]]at dA
  simp[h1,h7,h8,h9,hi,he,hlH,Pl,n0,aT,e98,wI,hf,Ih,Ig]
  generalize hA:bB _ _ _ _ _ _=A
  obtain⟨w',h',rfl,Ab,oJ,_⟩:=ho.push.push.append hx.push.push.wf (hx.push.push.le) (by simp[hlH]) hA (by simp;omega) (by decide)
  clear hA
  simp[h9,hw]
  generalize hF:upd _ 9 _=F
  refine ih (pH++[(u,v),(v,u)]) (i+1) F h' rB (by simp;omega) (by rw[←hF];simp[h1]) (by rw[←hF];simp[h7]) (by rw[←hF];simp[h8]) (by rw[←hF];simp) (by rw[←hF];simp;simpa[aT]using Ab) (hx.push.push.trans oJ) dA
theorem YD(t:Bool){m:Int}{L:List (Int×Int)}(ok:bP m L)(hL:L.length≤100000):pcF D Q4 [.agg [.int .i64 m,eL t 2 aT L]]=some (eL false 2 aT (bH L)):=by
 have hm:∀l∈L,xJ m l=true:=fun l hl=>decide_eq_true (ok.rng l hl)
 unfold pcF
 rw[aM _ _ _ _ (by simp[Q4])]
 simp[Q4]
 generalize hF:upd _ 9 _=F
 generalize hH:aA.push _ _=H
 refine ZC (fun r=>iK (fin [.t 2] r)=some (eL false 2 aT (bH L))) t m L hm hL H (by rw[←hH];simp) (by rw[←hH];simp) L [] 0 F H rfl (Nat.zero_le _) (by rw[←hF];simp) (by rw[←hF];simp) (by rw[←hF];simp) (by rw[←hF];simp) (.nil (by rw[←hF];simp) rfl) (.refl (by rw[←hH];simp) (by rw[←hH];simp)) fun F K o x=>?_
 rw[List.nil_append]at o
 have bY:=jX L
 have OL:=Du L
 cases o with
 | nil hv hx =>
  have oJ:L=[]:=List.length_eq_zero_iff.1 (by have:=congrArg List.length hx;rw[List.length_map]at this;simp only[List.length_nil]at this;omega)
  subst oJ
  simp[Eb,hv,EX,EW,turn]
  rfl
 | arr id sp cap hv hg bE eN =>
  have h2:=YH id sp cap K (qP L) hg bE (by omega)
  have hgl:=aC hg
  have g2:(K.set id (.arr 76 2 ((bH L).map aT++sp) cap)).get id=some (.arr 76 2 ((bH L).map aT++sp) cap):=cN x.wf hg
  have h3:=YG id (bH L) sp cap _ (by exact bE) (by omega) ok.waysOf_nd g2 x.wf.set
  have e2:(bH L).length=(qP L).length:=by omega
  rw[List.length_map]at hv
  rw[e2]at h3
  have w:OwnR 1 (K.set id (.arr 76 2 ((bH L).map aT++sp) cap)) (.sl id 2 0 (qP L).length) 76 2 ((bH L).map aT):=.arr id sp cap (by rw[List.length_map,e2]) g2 bE eN
  have Nu:=w.out (k:=22) (fun y _=>(rY y).1.mono (by decide)) (fun y _=>(rY y).2) (by decide)
  unfold bH at h3 Nu ⊢
  simp[Eb,hv,h2,h3,turn,-fO]
  exact Nu
end Go.Dm.Tc
/-
Graphs: all brokers that one can reach,and how far they are.
-/
namespace Go.Dm.Tc
def eO(m:Int)(L:List (Int×Int))(b:Int):List Int:=((List.range m.toNat).map fun i:Nat=>(i:Int)).filter fun x=>cJ m L b x
theorem sC(m:Int)(L:List (Int×Int))(b:Int):gF (eO m L b):=by
 unfold eO gF
 refine List.Pairwise.filter _ ?_
 rw[List.pairwise_map]
 exact List.pairwise_lt_range.imp fun h=>by omega
theorem dZ{m:Int}{L:List (Int×Int)}{a b:Int}(h:cJ m L a b=true):(0≤a∧a<m)∧(0≤b∧b<m)∧a≠b:=by
 unfold cJ at h
 rw[List.any_eq_true]at h
 obtain⟨l,_,h2⟩:=h
 rw[Bool.and_eq_true,Bool.or_eq_true]at h2
 have hm:=of_decide_eq_true h2.1
 rcases h2.2 with h3|h3<;>(have h4:=of_decide_eq_true h3;obtain⟨e1,e2⟩:=h4;refine⟨⟨?_,?_⟩,⟨?_,?_⟩,?_⟩<;>omega)
theorem nW{m:Int}{L:List (Int×Int)}{b x:Int}:x∈eO m L b↔cJ m L b x=true:=by
 unfold eO
 rw[List.mem_filter]
 constructor
 ·exact fun h=>h.2
 ·intro h
  have hr:=dZ h
  refine⟨List.mem_map.2 ⟨x.toNat,List.mem_range.2 (by omega),by omega⟩,h⟩
theorem Ah:∀{l k:List Int},gF l→gF k→(∀x,x∈l↔x∈k)→l=k
 | [],[],_,_,_=>rfl
 | [],y::k,_,_,h=>by have:=(h y).2 (List.mem_cons_self ..);cases this
 | x::l,[],_,_,h=>by have:=(h x).1 (List.mem_cons_self ..);cases this
 | x::l,y::k,hl,hk,h=>by
  obtain⟨h1,h2⟩:=List.pairwise_cons.1 hl
  obtain⟨g1,g2⟩:=List.pairwise_cons.1 hk
  have e:x=y:=by
   rcases List.mem_cons.1 ((h x).1 (List.mem_cons_self ..))with e|hx
   ·exact e
   ·rcases List.mem_cons.1 ((h y).2 (List.mem_cons_self ..))with e|hy
    ·exact e.symm
    ·have:=h1 y hy;have:=g1 x hx;omega
  subst e
  rw[Ah h2 g2 fun z=>?_]
  constructor
  ·intro hz
   rcases List.mem_cons.1 ((h z).1 (List.mem_cons_of_mem _ hz))with rfl|SG
   ·have:=h1 z hz;omega
   ·exact SG
  ·intro hz
   rcases List.mem_cons.1 ((h z).2 (List.mem_cons_of_mem _ hz))with rfl|SG
   ·have:=g1 z hz;omega
   ·exact SG
theorem OB(t:Bool){m:Int}(b:Int){L:List (Int×Int)}(ok:bP m L)(h0:0≤m)(h7:m≤12)(hL:L.length≤1000000):pcF D t55 [.agg [.int .i64 m,eL t 2 aT L],.int .i64 b]=some (eL false 1 bF (eO m L b)):=by
 obtain⟨N,h1,h2,h3,_⟩:=s55 t m b L hL (ok.bC h0 h7 b)
 rw[h1,Ah h2 (sC m L b) fun x=>by rw[h3,vO,nW]]
def nC(d:Int):List Int→List (Int×Int)→List (Int×Int)
 | [],K=>K
 | b::r,K=>if b∈K.map (·.1)then nC d r K else nC d r (K++[(b,d+1)])
def bfs(N:Int→List Int):Nat→Nat→List (Int×Int)→List (Int×Int)
 | 0,_,K=>K
 | n+1,i,K=>match K[i]? with
  | some p=>bfs N n (i+1) (nC p.2 (N p.1) K)
  | none=>K
theorem Hd(d:Int):∀(l:List Int) (K:List (Int×Int)),∃ R,nC d l K=K++R∧(∀p∈R,p.2=d+1∧p.1∈l)∧(∀b∈l,b∈(nC d l K).map (·.1))
 | [],K=>⟨[],by simp[nC],by simp,by simp⟩
 | b::r,K=>by
  unfold nC
  split
  ·rename_i hb
   obtain⟨R,h1,h2,h3⟩:=Hd d r K
   refine⟨R,h1,fun p hp=>⟨(h2 p hp).1,List.mem_cons_of_mem _ (h2 p hp).2⟩,fun x hx=>?_⟩
   rcases List.mem_cons.1 hx with rfl|hx
   ·rw[h1,List.map_append];exact List.mem_append_left _ hb
   ·exact h3 x hx
  ·rename_i hb
   obtain⟨R,h1,h2,h3⟩:=Hd d r (K++[(b,d+1)])
   refine⟨(b,d+1)::R,by rw[h1];simp,fun p hp=>?_,fun x hx=>?_⟩
   ·rcases List.mem_cons.1 hp with rfl|hp
    ·exact⟨rfl,List.mem_cons_self ..⟩
    ·exact⟨(h2 p hp).1,List.mem_cons_of_mem _ (h2 p hp).2⟩
   ·rcases List.mem_cons.1 hx with rfl|hx
    ·rw[h1];simp
    ·exact h3 x hx
theorem yB(d:Int):∀(l:List Int) (K:List (Int×Int)),(K.map (·.1)).Nodup→((nC d l K).map (·.1)).Nodup
 | [],K,h=>h
 | b::r,K,h=>by
  unfold nC
  split
  ·exact yB d r K h
  ·rename_i hb
   refine yB d r _ ?_
   rw[List.map_append]
   exact List.nodup_append.2 ⟨h,by simp,fun a ha c hc e=>hb (by simp at hc;rw[hc]at e;exact e ▸ ha)⟩
structure qN(N:Int→List Int)(a:Int)(K:List (Int×Int))(i:Nat):Prop where
 nd:(K.map (·.1)).Nodup
 st:K[0]?=some (a,0)
 le:i≤K.length
 mono:K.Pairwise fun p q=>p.2≤q.2
 top:∀(p:Int×Int),K[i]?=some p→∀q∈K,q.2≤p.2+1
 cl:∀(j:Nat) (p:Int×Int),j<i→K[j]?=some p→∀b∈N p.1,∃ q∈K,q.1=b∧q.2≤p.2+1
 rng:∀p∈K,p.1=a∨∃ c,p.1∈N c
 pos:∀p∈K,0≤p.2
 idx:∀(j:Nat) (p:Int×Int),K[j]?=some p→p.2≤j
theorem qN.start(N:Int→List Int)(a:Int):qN N a [(a,0)] 0 :=
 ⟨by simp,rfl,Nat.zero_le _,List.pairwise_singleton _ _,fun p hp q hq=>by simp at hp hq;rw[←hp,hq];show(0:Int)≤0+1;decide,fun j _ hj=>absurd hj (Nat.not_lt_zero _),fun p hp=>by simp at hp;rw[hp];exact .inl rfl,fun p hp=>by simp at hp;rw[hp];exact Int.le_refl _,fun j p hp=>by
  rcases j with _|j
  ·simp at hp;rw[←hp];exact Int.le_refl _
  ·simp at hp⟩
theorem qN.step{N:Int→List Int}{a:Int}{K:List (Int×Int)}{i:Nat}(I:qN N a K i){p:Int×Int}(hp:K[i]?=some p):qN N a (nC p.2 (N p.1) K) (i+1):=by
 obtain⟨R,h1,h2,h3⟩:=Hd p.2 (N p.1) K
 have hi:=(List.getElem?_eq_some_iff.1 hp).1
 have hpm:p∈K:=List.mem_of_getElem? hp
 have hmono:(nC p.2 (N p.1) K).Pairwise fun p q=>p.2≤q.2:=by
  rw[h1,List.pairwise_append]
  refine⟨I.mono,?_,fun x hx y hy=>?_⟩
  ·rw[List.pairwise_iff_getElem]
   intro u v hu hv _
   rw[(h2 _ (List.getElem_mem hu)).1,(h2 _ (List.getElem_mem hv)).1]
   exact Int.le_refl _
  ·rw[(h2 y hy).1];exact I.top p hp x hx
 refine⟨yB _ _ _ I.nd,?_,by rw[h1,List.length_append];omega,hmono,fun q hq x hx=>?_,fun j q hj hq b hb=>?_,fun q hq=>?_,fun q hq=>?_,fun j q hq=>?_⟩
 ·rw[h1,List.getElem?_append_left (by omega)];exact I.st
 ·have Kk:p.2≤q.2:=by
   have aZ:=(List.getElem?_eq_some_iff.1 hq).1
   have:=List.pairwise_iff_getElem.1 hmono i (i+1) (by omega) aZ (by omega)
   have e1:(nC p.2 (N p.1) K)[i]'(by omega)=p:=by
    have:(nC p.2 (N p.1) K)[i]?=some p:=by rw[h1,List.getElem?_append_left hi];exact hp
    exact(List.getElem?_eq_some_iff.1 this).2
   have e2:(nC p.2 (N p.1) K)[i+1]'(aZ)=q:=(List.getElem?_eq_some_iff.1 hq).2
   rw[e1,e2]at this
   exact this
  rw[h1]at hx
  rcases List.mem_append.1 hx with hx|hx
  ·have:=I.top p hp x hx;omega
  ·have:=(h2 x hx).1;omega
 ·by_cases hji:j<i
  ·have Oc:j<K.length:=by omega
   rw[h1,List.getElem?_append_left Oc]at hq
   obtain⟨c,hc,e1,e2⟩:=I.cl j q hji hq b hb
   exact⟨c,by rw[h1];exact List.mem_append_left _ hc,e1,e2⟩
  ·have hje:j=i:=by omega
   subst hje
   rw[h1,List.getElem?_append_left hi,hp]at hq
   cases hq
   obtain⟨c,hc,e1⟩:=List.mem_map.1 (h3 b hb)
   refine⟨c,hc,e1,?_⟩
   rw[h1]at hc
   rcases List.mem_append.1 hc with hc|hc
   ·exact I.top p hp c hc
   ·rw[(h2 c hc).1];exact Int.le_refl _
 ·rw[h1]at hq
  rcases List.mem_append.1 hq with hq|hq
  ·exact I.rng q hq
  ·exact .inr ⟨p.1,(h2 q hq).2⟩
 ·rw[h1]at hq
  rcases List.mem_append.1 hq with hq|hq
  ·exact I.pos q hq
  ·have:=I.pos p hpm;rw[(h2 q hq).1];omega
 ·rw[h1]at hq
  by_cases hj:j<K.length
  ·rw[List.getElem?_append_left hj]at hq;exact I.idx j q hq
  ·rw[List.getElem?_append_right (by omega)]at hq
   have:=(h2 q (List.mem_of_getElem? hq)).1
   have:=I.idx i p hp
   omega
theorem qN.walk{N:Int→List Int}{a:Int}:∀(n i:Nat) (K:List (Int×Int)),qN N a K i→qN N a (bfs N n i K) (bfs N n i K).length∨∃ j,i+n≤j∧qN N a (bfs N n i K) j
 | 0,i,K,I=>.inr ⟨i,Nat.le_refl _,I⟩
 | n+1,i,K,I=>by
  unfold bfs
  cases hp:K[i]? with
  | none =>
   have:K.length≤i:=List.getElem?_eq_none_iff.1 hp
   have e:i=K.length:=Nat.le_antisymm I.le this
   exact .inl (e ▸ I)
  | some p =>
   rcases qN.walk n (i+1) _ (I.step hp)with h|⟨j,h1,h2⟩
   ·exact .inl h
   ·exact .inr ⟨j,by omega,h2⟩
theorem Ka{n:Nat}{l:List Int}(hd:l.Nodup)(h:∀x∈l,0≤x∧x<n):l.length≤n:=sB hd h
theorem qN.done{N:Int→List Int}{a:Int}{m:Nat}(hN:∀c b,b∈N c→0≤b∧b<m)(ha:0≤a∧a<m){n:Nat}(hn:m+1≤n):qN N a (bfs N n 0 [(a,0)]) (bfs N n 0 [(a,0)]).length∧(bfs N n 0 [(a,0)]).length≤m:=by
 have key:∀{K i},qN N a K i→K.length≤m:=fun {K i} I=>by
  have:=Ka (n:=m) I.nd fun x hx=>by
   obtain⟨p,hp,rfl⟩:=List.mem_map.1 hx
   rcases I.rng p hp with e|⟨c,hc⟩
   ·rw[e];exact ha
   ·exact hN c _ hc
  simpa using this
 rcases qN.walk n 0 _ (qN.start N a)with h|⟨j,h1,h2⟩
 ·exact⟨h,key h⟩
 ·have:=key h2
  have:=h2.le
  omega
def eZ(x:Int):DV:=.int .i64 x
def lJ(K:List (Int×Int)):List (Int×DV):=K.map fun p=>(p.1,.int .i64 p.2)
theorem Ac(K:List (Int×Int)):(lJ K).map (·.1)=K.map (·.1):=by simp[lJ]
theorem BY{K:List (Int×Int)}(hn:(K.map (·.1)).Nodup){p:Int×Int}(hp:p∈K):kL (lJ K) p.1=some (.int .i64 p.2):=by
 induction K with
 | nil=>cases hp
 | cons q r ih =>
  simp only[List.map_cons,List.nodup_cons]at hn
  by_cases h:q.1=p.1
  ·rcases List.mem_cons.1 hp with rfl|hp
   ·simp[lJ,kL]
   ·exact absurd (List.mem_map.2 ⟨p,hp,rfl⟩) (h ▸ hn.1)
  ·rcases List.mem_cons.1 hp with rfl|hp
   ·exact absurd rfl h
   ·have:=ih hn.2 hp
    simp only[lJ,kL,List.map_cons]at this ⊢
    rw[List.find?_cons,decide_eq_false h]
    exact this
theorem O5{K:List (Int×Int)}{b:Int}(hb:b ∉ K.map (·.1)):kL (lJ K) b=none:=by
 cases h:kL (lJ K) b with
 | none=>rfl
 | some v=>exact absurd (Ac K ▸ (Kc (ms:=lJ K) (x:=b)).2 ⟨v,h⟩) hb
theorem BX{K:List (Int×Int)}{b d:Int}(hb:b ∉ K.map (·.1)):tQ b (.int .i64 d) (lJ K)=lJ (K++[(b,d)]):=by
 induction K with
 | nil=>rfl
 | cons q r ih =>
  simp only[List.map_cons,List.mem_cons,not_or]at hb
  have h:¬q.1=b:=fun e=>hb.1 e.symm
  simp only[lJ,List.map_cons,List.cons_append,tQ,if_neg h]
  rw[show(r.map fun p:Int×Int=>(p.1,DV.int .i64 p.2))=lJ r from rfl,ih hb.2]
  rfl
structure w7(H:aA)(v:DV)(id:Nat)(xs:List Int):Prop where
 at_:∃ off pre cap,v=.sl id 1 off xs.length∧H.get id=some (.arr 3 1 (pre++xs.map bF) cap)∧pre.length=off
structure RS(lo:Nat)(H:aA)(g mo id:Nat)(go:DO)(v:DV)(K:List (Int×Int))(xs:List Int):Prop where
 wf:WF H
 lim:H.lim=lo
 hn:lo≤H.n
 lm:lo≤mo
 li:lo≤id
 gg:H.get g=some go
 gm:H.get mo=some (.mp (fQ eZ (lJ K)))
 row:w7 H v id xs
 ng:id≠g
 nm:id≠mo
 gm':g≠mo
theorem RS.push{lo:Nat}{H:aA}{g mo id:Nat}{go:DO}{v:DV}{K:List (Int×Int)}{xs:List Int}(s:RS lo H g mo id go v K xs)(o:DO):RS lo (H.push o) g mo id go v K xs:=by
 have h1:=aC s.gg
 have h2:=aC s.gm
 obtain⟨off,pre,cap,e1,e2,e3⟩:=s.row.at_
 have h3:=aC e2
 exact⟨s.wf.push,s.lim,by have:=s.hn;simp;omega,s.lm,s.li,by rw[aN h1];exact s.gg,by rw[aN h2];exact s.gm,⟨off,pre,cap,e1,by rw[aN h3];exact e2,e3⟩,s.ng,s.nm,s.gm'⟩
theorem RS.key{lo:Nat}{H:aA}{g mo id:Nat}{go:DO}{v:DV}{K:List (Int×Int)}{xs:List Int}(s:RS lo H g mo id go v K xs){b d:Int}(hb:b ∉ K.map (·.1)):RS lo (H.set mo (.mp (fQ eZ (tQ b (.int .i64 d) (lJ K))))) g mo id go v (K++[(b,d)]) xs:=by
 have h2:=aC s.gm
 obtain⟨off,pre,cap,e1,e2,e3⟩:=s.row.at_
 exact⟨s.wf.set,s.lim,s.hn,s.lm,s.li,by rw[aR h2 s.gm'];exact s.gg,by rw[cN s.wf s.gm,BX hb],⟨off,pre,cap,e1,by rw[aR h2 s.nm];exact e2,e3⟩,s.ng,s.nm,s.gm'⟩
theorem RS.more{lo:Nat}{H:aA}{g mo id:Nat}{go:DO}{v:DV}{K:List (Int×Int)}{xs:List Int}{A:Option (DV×aA)}(s:RS lo H g mo id go v K xs){b:Int}(hl:xs.length≤1000000)(hA:bB H 3 1 8 v [.int .i64 b]=A) :
  ∃ v' H' id',A=some (v',H')∧RS lo H' g mo id' go v' K (xs++[b]):=by
 obtain⟨off,pre,cap,rfl,e2,rfl⟩:=s.row.at_
 have h1:=aC s.gg
 have h2:=aC s.gm
 have h3:=aC e2
 have hd:((pre++xs.map bF).drop pre.length).take xs.length=xs.map bF:=by
  rw[List.drop_left' rfl,List.take_of_length_le (by simp)]
 have Oa:=s.lim
 subst hA
 have cQ:([DV.int .i64 b]:List DV).isEmpty=false:=rfl
 simp only[bB,cQ,Bool.false_eq_true,if_false,e2]
 rw[if_pos ⟨trivial,trivial,trivial,by simp,by simp;omega,by simp;omega⟩,if_neg (by simp),hd]
 cases cap with
 | some c =>
  refine⟨_,_,H.n,rfl,s.wf.push,s.lim,by have:=s.hn;simp;omega,s.lm,s.hn,by rw[aN h1];exact s.gg,by rw[aN h2];exact s.gm,⟨0,[],none,by simp,by simp[bF],rfl⟩,by omega,by omega,s.gm'⟩
 | none =>
  rw[if_pos (by rw[Oa];exact s.li)]
  refine⟨_,_,H.n,rfl,s.wf.set.push,s.lim,by have:=s.hn;simp;omega,s.lm,s.hn,?_,?_,⟨0,[],none,by simp,by simp[bF],rfl⟩,by omega,by omega,s.gm'⟩
  ·rw[aN (by exact h1),aR h3 s.ng.symm];exact s.gg
  ·rw[aN (by exact h2),aR h3 s.nm.symm];exact s.gm
theorem RS.head{lo:Nat}{H:aA}{g mo id:Nat}{go:DO}{v:DV}{K:List (Int×Int)}{x:Int}{xs:List Int}(s:RS lo H g mo id go v K (x::xs)):∃ off pre cap,v=.sl id 1 off (xs.length+1)∧H.get id=some (.arr 3 1 (pre++.int .i64 x::xs.map bF) cap)∧pre.length=off∧aS 1 v (.int .i64 0)=some (.ptr id 1 off 0)∧(pre++.int .i64 x::xs.map bF)[off]?=some (.int .i64 x):=by
 obtain⟨off,pre,cap,rfl,e2,rfl⟩:=s.row.at_
 exact⟨_,pre,cap,rfl,e2,rfl,by simp[aS,asI],by simp⟩
theorem RS.pop{lo:Nat}{H:aA}{g mo id:Nat}{go:DO}{v:DV}{K:List (Int×Int)}{x:Int}{xs:List Int}(s:RS lo H g mo id go v K (x::xs)):∃ v',fC H 1 v (some (.int .i64 1)) none=some v'∧RS lo H g mo id go v' K xs:=by
 obtain⟨off,pre,cap,rfl,e2,rfl⟩:=s.row.at_
 refine⟨.sl id 1 (pre.length+1) xs.length,?_,s.wf,s.lim,s.hn,s.lm,s.li,s.gg,s.gm,⟨pre.length+1,pre++[.int .i64 x],cap,rfl,by rw[e2];simp[bF],by simp⟩,s.ng,s.nm,s.gm'⟩
 have h1:cG none (x::xs).length ((pre++(x::xs).map bF).length-pre.length)=some (x::xs).length:=uV _ _
 have h2:cG (some (.int .i64 1)) 0 (x::xs).length=some 1:=by simp[cG,asI];omega
 simp only[fC,e2]
 rw[if_pos ⟨trivial,trivial,by simp⟩,h1]
 simp only[h2]
 simp
theorem YR(P:Res→Prop)(S:List Fr)(lo g mo:Nat)(go:DO)(N:List Int)(hN:N.length≤1000)(x d:Int)(hd:0≤d∧d≤100000) :
  ∀(rest:List Int) (K:List (Int×Int)) (ys:List Int) (i id:Nat) (f:dX) (h:aA),N.drop i=rest→K.length+rest.length≤100000→ys.length+rest.length≤100000→(K.map (·.1)).Nodup→(x,d)∈K→f 5=.map mo→f 25=eL false 1 bF N→f 26=.int .i64 N.length→f 27=.int .i64 i→RS lo h g mo id go (f 6) K (x::ys) →
  (∀F H id' ys',F 5=.map mo→F 2=f 2→RS lo H g mo id' go (F 6) (nC d rest K) (x::ys')→(∃ R,nC d rest K=K++R∧ys'=ys++R.map (·.1))→P (ret D 53 S (.normal) F H)) →
  P (run D 53 (.block 2::S) (.loop E8) f h):=by
 intro rest
 induction rest with
 | nil =>
  intro K ys i id f h hdr hk hy hn hx h5 h25 h26 h27 s dA
  have hi:=jT hdr
  have:¬(i<N.length):=by omega
  rw[aG E8.eq_1]
  simp[h26,h27,this]
  exact dA _ _ id ys (by simp[h5]) (by simp) (by simpa[nC]using s) ⟨[],by simp[nC],by simp⟩
 | cons b rest ih =>
  intro K ys i id f h hdr hk hy hn hx h5 h25 h26 h27 s dA
  obtain⟨hi,he,rB⟩:=lB hdr
  have hw:IntKind.i64.wrap ((i:Int)+1)=(i:Int)+1:=bJ (by omega) (by omega)
  have hwd:IntKind.i64.wrap (d+1)=d+1:=bJ (by omega) (by omega)
  have gm:=s.gm
  have hnz:((lJ K).map (·.1)).Nodup:=by rw[Ac];exact hn
  have Y6:fW (.prim 1) (.int .i64 0) true (.int .i64 b) (some (fQ eZ (lJ K)))=_:=Ch (kE:=eZ) Nt hnz (.int .i64 0) true b
  rw[aG E8.eq_1]
  by_cases hb:b∈K.map (·.1)
  ·obtain⟨v,hv⟩:=(Kc (ms:=lJ K) (x:=b)).1 (by rw[Ac];exact hb)
   rw[hv]at Y6
   simp only[if_true]at Y6
   have Zp:nC d (b::rest) K=nC d rest K:=by rw[nC,if_pos hb]
   rw[Zp]at dA
   simp[h5,h25,h26,h27,hi,he,gm,eW,gT,Y6,hw,bF]
   generalize hF:upd _ 27 _=F
   refine ih K ys (i+1) id F h rB (by simp at hk;omega) (by simp at hy;omega) hn hx (by rw[←hF];simp[h5]) (by rw[←hF];simp[h25]) (by rw[←hF];simp[h26]) (by rw[←hF];simp) (by rw[←hF];simpa using s) ?_
   intro F2 H2 id2 ys2 a1 a2 a3 a4
   exact dA F2 H2 id2 ys2 a1 (by rw[a2,←hF];simp) a3 a4
  ·rw[O5 hb]at Y6
   simp only[if_true]at Y6
   have hlx:fW (.prim 1) (.int .i64 0) false (.int .i64 x) (some (fQ eZ (lJ K)))=_:=Nq (kE:=eZ) Nt hnz (.int .i64 0) x
   rw[BY hn hx]at hlx
   simp only[Option.getD_some]at hlx
   obtain⟨off,pre,cap,hv6,hg6,hpre,uE,nL⟩:=s.head
   have Pj:Hj h (.prim 1) mo (.int .i64 b) (.int .i64 (d+1)) (some (.mp (fQ eZ (lJ K))))=_:=Pt (kE:=eZ) Nt (h:=h) (id:=mo) hnz (by rw[s.lim];exact s.lm) b (.int .i64 (d+1))
   have s2:=s.key (d:=d+1) hb
   have Zp:nC d (b::rest) K=nC d rest (K++[(b,d+1)]):=by rw[nC,if_neg hb]
   rw[Zp]at dA
   simp[h5,h25,h26,h27,hi,he,gm,eW,gT,Y6,bF,uE,hg6,nL,hlx,hwd,kJ,Pj]
   generalize hH:h.set mo _=H at *
   generalize hA:bB _ _ _ _ _ _=A
   obtain⟨v',H',id',rfl,s3⟩:=(s2.push _).more (by simp at hy ⊢;omega) hA
   clear hA
   simp[h27,hw]
   generalize hF:upd _ 27 _=F
   refine ih (K++[(b,d+1)]) (ys++[b]) (i+1) id' F H' rB (by simp at hk ⊢;omega) (by simp at hy ⊢;omega) ?_ (List.mem_append_left _ hx) (by rw[←hF];simp[h5]) (by rw[←hF];simp[h25]) (by rw[←hF];simp[h26]) (by rw[←hF];simp) (by rw[←hF];simpa using s3) ?_
   ·rw[List.map_append]
    exact List.nodup_append.2 ⟨hn,by simp,fun a ha c hc e=>hb (by simp at hc;rw[hc]at e;exact e ▸ ha)⟩
   ·intro F2 H2 id2 ys2 a1 a2 a3 a4
    refine dA F2 H2 id2 ys2 a1 (by rw[a2,←hF];simp) a3 ?_
    obtain⟨R,r1,r2⟩:=a4
    exact⟨(b,d+1)::R,by rw[r1];simp,by rw[r2];simp⟩
theorem Iq{K:List (Int×Int)}{i:Nat}{p:Int×Int}(hp:K[i]?=some p):(K.drop i).map (·.1)=p.1::(K.drop (i+1)).map (·.1):=by
 obtain⟨hi,rfl⟩:=List.getElem?_eq_some_iff.1 hp
 rw[List.drop_eq_getElem_cons hi];rfl
theorem YQ(P:Res→Prop)(S:List Fr)(lo g mo:Nat)(t:Bool){m:Int}{L:List (Int×Int)}(ok:bP m L)(h0:0≤m)(h7:m≤12)(hL:L.length≤1000000)(a:Int)(ha:0≤a∧a<m) :
  ∀(n i:Nat) (K:List (Int×Int)) (id:Nat) (f:dX) (h:aA),(i+n:Nat)=m.toNat+1→qN (eO m L) a K i→f 2=.ptr g 2 0 0→f 5=.map mo→RS lo h g mo id (.arr 66 2 [.agg [.int .i64 m,eL t 2 aT L]] (some 1)) (f 6) K ((K.drop i).map (·.1)) →
  (∀F H id',F 5=.map mo→qN (eO m L) a (bfs (eO m L) n i K) (bfs (eO m L) n i K).length→RS lo H g mo id' (.arr 66 2 [.agg [.int .i64 m,eL t 2 aT L]] (some 1)) (F 6) (bfs (eO m L) n i K) []→P (run D 53 S E9 F H)) →
  P (run D 53 (.block 0::.seq E9::S) (.loop CV) f h):=by
 have hrng:∀c b,b∈eO m L c→0≤b∧b<m:=fun c b hb=>(dZ (nW.1 hb)).2.1
 have bY:∀{K i},qN (eO m L) a K i→K.length≤m.toNat:=fun {K i} I=>by
  have:=Ka (n:=m.toNat) I.nd fun x hx=>by
   obtain⟨p,hp,rfl⟩:=List.mem_map.1 hx
   rcases I.rng p hp with e|⟨c,hc⟩
   ·rw[e];omega
   ·have:=hrng c _ hc;omega
  simpa using this
 have hnl:∀x,(eO m L x).length≤12:=fun x=>by
  unfold eO
  have:=List.length_filter_le (fun y=>cJ m L x y) ((List.range m.toNat).map fun i:Nat=>(i:Int))
  simp at this
  omega
 intro n
 induction n with
 | zero =>
  intro i K id f h hi I
  have:=bY I
  have:=I.le
  omega
 | succ n ih =>
  intro i K id f h hi I f2 f5 s dA
  have hk:=bY I
  have gg:=s.gg
  have lim:=s.lim
  rw[aG CV.eq_1]
  cases hp:K[i]? with
  | none =>
   have Y9:K.length≤i:=List.getElem?_eq_none_iff.1 hp
   have hd:K.drop i=[]:=List.drop_eq_nil_iff.2 Y9
   have hb:bfs (eO m L) (n+1) i K=K:=by unfold bfs;rw[hp]
   rw[hb]at dA
   rw[hd]at s
   obtain⟨off,pre,cap,hv,hg,hpre⟩:=s.row.at_
   have e:i=K.length:=Nat.le_antisymm I.le Y9
   simp[hv]
   exact dA _ _ id (by simp[f5]) (e ▸ I) (by simpa[hv]using s)
  | some p =>
   obtain⟨x,d⟩:=p
   have Cy:(x,d)∈K:=List.mem_of_getElem? hp
   have hb:bfs (eO m L) (n+1) i K=bfs (eO m L) n (i+1) (nC d (eO m L x) K):=by rw[bfs,hp]
   rw[hb]at dA
   rw[Iq hp]at s
   obtain⟨ys,vQ⟩:∃ ys,(K.drop (i+1)).map (·.1)=ys:=⟨_,rfl⟩
   have OC:ys.length≤12:=by rw[←vQ];simp;omega
   rw[vQ]at s
   have hd:=I.idx i _ hp
   have hd0:=I.pos _ Cy
   simp only at hd hd0
   have hil:=(List.getElem?_eq_some_iff.1 hp).1
   obtain⟨off,pre,cap,hv,hg,hpre,uE,nL⟩:=s.head
   have hN:=OB t x ok h0 h7 hL
   have hf:∀h,resolve true h 199 (eL t 2 aT L)=some (eL t 2 aT L):=fun h=>eF _ _ _ _ true h 199 (by decide)
   have hnx:=hnl x
   simp only[hv]at uE
   simp[f2,f5,hv,uE,gg,hg,nL,e55,hN,hf]
   generalize hF:upd _ 27 _=F
   refine YR P _ lo g mo _ (eO m L x) (by omega) x d ⟨hd0,by omega⟩ (eO m L x) K ys 0 id F h rfl (by omega) (by omega) I.nd Cy (by rw[←hF];simp[f5]) (by rw[←hF];simp) (by rw[←hF];simp) (by rw[←hF];simp) (by rw[←hF];simpa[hv]using s) ?_
   intro F2 H2 id2 ys' a5 a2 s2 ⟨R,r1,r2⟩
   obtain⟨v',Zi,s3⟩:=s2.pop
   simp[NP,Zi]
   generalize hF3:upd _ 6 _=F3
   refine ih (i+1) _ id2 F3 H2 (by omega) (I.step hp) (by rw[←hF3];simp[a2,←hF,f2]) (by rw[←hF3];simp[a5]) ?_ dA
   rw[r1]at s3 ⊢
   rw[List.drop_append_of_le_length (by omega),List.map_append,vQ,←r2]
   rw[←hF3]
   simpa using s3
def xO(m:Int)(L:List (Int×Int))(a:Int):List (Int×Int):=bfs (eO m L) (m.toNat+1) 0 [(a,0)]
theorem Bh{m:Int}{L:List (Int×Int)}{a:Int}(ha:0≤a∧a<m):qN (eO m L) a (xO m L a) (xO m L a).length∧(xO m L a).length≤m.toNat:=by
 refine qN.done (m:=m.toNat) (fun c b hb=>?_) (by omega) (Nat.le_refl _)
 have:=(dZ (nW.1 hb)).2.1
 omega
theorem q71(t:Bool){m:Int}{L:List (Int×Int)}(ok:bP m L)(h0:0≤m)(h7:m≤12)(hL:L.length≤1000000){a:Int}(ha:0≤a∧a<m){h:aA}(wf:WF h)(bE:h.lim≤h.n) :
  ∃ mo h',fc D 71 [.agg [.int .i64 m,eL t 2 aT L],.int .i64 a] h=some (.map mo,h')∧h'.get mo=some (.mp (fQ eZ (lJ (xO m L a))))∧h'.lim=h.lim∧WF h':=by
 have Pj:Hj (h.push (.arr 66 2 [.agg [.int .i64 m,eL t 2 aT L]] (some 1)) |>.push (.mp [])) (.prim 1) (h.n+1) (.int .i64 a) (.int .i64 0) (some (.mp (fQ eZ (lJ []))))=_:=Pt (kE:=eZ) Nt (ms:=lJ []) (by simp[lJ]) (by simp;omega) a (.int .i64 0)
 have hz:lJ []=[]:=rfl
 have he:fQ eZ []=[]:=rfl
 rw[hz,he]at Pj
 have hp1:tQ a (DV.int .i64 0) []=lJ [(a,0)]:=rfl
 rw[hp1]at Pj
 rw[e71,aM _ _ _ _ (by simp[t71])]
 simp[t71,kJ,Pj,wf]
 generalize hF:upd _ 6 _=F
 generalize hH:aA.push _ _=H
 refine YQ (fun r=>∃ mo h',fin [.t 4] r=some (.map mo,h')∧h'.get mo=some (.mp (fQ eZ (lJ (xO m L a))))∧h'.lim=h.lim∧WF h') [] h.lim h.n (h.n+1) t ok h0 h7 hL a ha (m.toNat+1) 0 [(a,0)] (h.n+2) F H (by omega) (qN.start _ _) (by rw[←hF];simp) (by rw[←hF];simp) ?_ ?_
 ·have Vm:h.n<h.n+1:=by omega
  refine⟨by rw[←hH];simp[wf],by rw[←hH];simp,by rw[←hH];simp;omega,by omega,by omega,?_,?_,⟨0,[],some 1,?_,?_,rfl⟩,by omega,by omega,by omega⟩
  ·rw[←hH];simp[wf]
  ·rw[←hH];simp[wf]
  ·rw[←hF];simp
  ·rw[←hH];simp[wf,bF]
 ·intro F2 H2 id2 a5 _ s
  refine⟨h.n+1,H2,?_,s.gm,s.lim,s.wf⟩
  simp[E9,a5]
end Go.Dm.Tc
/-
Graphs: may one be? One of numbers may.
-/
namespace Go.Dm.Tc
def mO(l:Int×Int):Int×Int:=if l.1≤l.2 then l else(l.2,l.1)
theorem s99(a b:Int):pcF D t99 [.agg [.int .i64 a,.int .i64 b]]=some (.agg [.int .i64 (mO (a,b)).1,.int .i64 (mO (a,b)).2]):=by
 unfold pcF
 rw[aM _ _ _ _ (by simp[t99])]
 by_cases h:a≤b
 ·simp[t99,Ih,Ig,mO,h]
  omega
 ·simp[t99,Ih,Ig,mO,h]
  omega
theorem GN{l k:Int×Int}(h:mO l=mO k):l=k∨l=(k.2,k.1):=by
 obtain⟨a,b⟩:=l
 obtain⟨c,d⟩:=k
 unfold mO at h
 by_cases h1:a≤b<;>by_cases h2:c≤d<;>simp[h1,h2]at h<;>simp<;>omega
def kW(l:Int×Int):ID:=⟨(mO l).1,(mO l).2⟩
theorem bP.joined{m:Int}{L:List (Int×Int)}(h:bP m L):(L.map kW).Nodup:=by
 rw[List.nodup_iff_pairwise_ne,List.pairwise_map]
 refine h.nd.imp fun {x y} hxy e=>?_
 have hj:mO x=mO y:=by
  unfold kW at e
  injection e with e1 e2
  exact Prod.ext e1 e2
 rcases GN hj with h1|h1
 ·exact hxy.1 h1
 ·exact hxy.2 h1
theorem yY{α:Type}[DecidableEq α]:∀{A B:List α},A.Nodup→(∀x∈A,x∈B)→A.length≤B.length
 | [],_,_,_=>Nat.zero_le _
 | a::A,B,hn,h=>by
  obtain⟨h1,h2⟩:=List.nodup_cons.1 hn
  have ha:=h a (List.mem_cons_self ..)
  have ih:=yY (A:=A) (B:=B.erase a) h2 fun x hx=>(List.mem_erase_of_ne (fun e=>h1 (by rw[←e];exact hx))).2 (h x (List.mem_cons_of_mem _ hx))
  rw[List.length_erase_of_mem ha]at ih
  have:=List.length_pos_of_mem ha
  simp only[List.length_cons]
  omega
def BP(m:Int)(L:List (Int×Int)):Prop:=∀b,0≤b→b<m→∃ d,(b,d)∈xO m L 0
theorem BP.len{m:Int}{L:List (Int×Int)}(h1:1≤m)(h:BP m L):(xO m L 0).length=m.toNat:=by
 obtain⟨I,cD⟩:=Bh (m:=m) (L:=L) (a:=0) ⟨by decide,by omega⟩
 refine Nat.le_antisymm cD ?_
 have zC:∀x∈(List.range m.toNat).map (fun i:Nat=>(i:Int)),x∈(xO m L 0).map (·.1):=fun x hx=>by
  obtain⟨i,hi,rfl⟩:=List.mem_map.1 hx
  have:=List.mem_range.1 hi
  obtain⟨d,hd⟩:=h i (by omega) (by omega)
  exact List.mem_map.2 ⟨_,hd,rfl⟩
 have IN:((List.range m.toNat).map (fun i:Nat=>(i:Int))).Nodup:=by
  rw[List.nodup_iff_pairwise_ne,List.pairwise_map]
  exact List.pairwise_lt_range.imp fun aZ e=>by omega
 have:=yY IN zC
 simpa using this
theorem l51(P:Res→Prop)(t:Bool){m:Int}{L:List (Int×Int)}(ok:bP m L)(hL:L.length≤200)(h0:aA)(g0:h0.get 0=some (.arr 66 2 [.agg [.int .i64 m,eL t 2 aT L]] (some 1)))(bE:h0.lim=0) :
  ∀(rest:List (Int×Int)) (i:Nat) (f:dX) (h:aA),L.drop i=rest→f 1=.ptr 0 2 0 0→f 3=.map 1→f 8=eL t 2 aT L→f 9=.int .i64 L.length→f 10=.int .i64 i→h.get 1=some (.mp (sZ ((L.take i).map kW)))→Ext 1 h0 h→2≤h.n →
  (∀F H,F 1=.ptr 0 2 0 0→Ext 1 h0 H→P (run D 56 [] F8 F H)) →
  P (run D 56 [.block 0,.seq F8] (.loop F7) f h):=by
 intro rest
 induction rest with
 | nil =>
  intro i f h hd f1 f3 f8 f9 f10 gm x hn dA
  have hi:=jT hd
  have:¬(i<L.length):=by omega
  rw[aG F7.eq_1]
  simp[f9,f10,this]
  exact dA _ _ (by simp[f1]) x
 | cons l rest ih =>
  intro i f h hd f1 f3 f8 f9 f10 gm x hn dA
  obtain⟨hi,he,rB⟩:=lB hd
  have hxi:L[i]?=some l:=by have:=congrArg List.head? hd;simpa[List.head?_drop]using this
  have hlH:h.lim=0:=x.lim.trans bE
  have Pl:=(x.get 0 (by decide)).trans g0
  have n0:¬0=h.n:=by omega
  have n1:¬1=h.n:=by omega
  have hw:IntKind.i64.wrap ((i:Int)+1)=(i:Int)+1:=bJ (by omega) (by omega)
  have hf:∀h,resolve true h 199 (eL t 2 aT L)=some (eL t 2 aT L):=fun h=>eF _ _ _ _ true h 199 (by decide)
  have hm:pcF D t98 [.agg [.int .i64 m,eL t 2 aT L],.agg [.int .i64 l.1,.int .i64 l.2]]=some (.bool true):=by
   have:=s98 t m L l
   rw[show xJ m l=true from decide_eq_true (ok.rng l (List.mem_of_getElem? hxi))]at this
   exact this
  have hj:=s99 l.1 l.2
  have IN:((L.take i).map kW).Nodup:=(List.Sublist.map kW (List.take_sublist i L)).nodup ok.joined
  have hnotin:kW l ∉ (L.take i).map kW:=by
   have:=ok.joined
   rw[show L=L.take i++l::rest by rw[←hd,List.take_append_drop],List.map_append]at this
   have:=(List.nodup_append.1 this).2.2
   intro Cy
   exact this _ Cy (kW l) (by simp) rfl
  have Y6:=xF IN (mO (l.1,l.2)).1 (mO (l.1,l.2)).2
  have hjj:(⟨(mO (l.1,l.2)).1,(mO (l.1,l.2)).2⟩:ID)=kW l:=rfl
  rw[hjj,decide_eq_false hnotin]at Y6
  have Pj:=fun(H:aA) (hl:H.lim≤1)=>E2 (h:=H) (id:=1) IN hl (mO (l.1,l.2)).1 (mO (l.1,l.2)).2
  rw[hjj]at Pj
  have Zp:yA (kW l) ((L.take i).map kW)=(L.take (i+1)).map kW:=by
   rw[yA,if_neg hnotin,List.take_add_one,hxi,List.map_append];rfl
  rw[Zp]at Pj
  have ih':=ih (i+1)
  have Dl:1<h.n:=by omega
  have BR:=x.wf
  generalize (L.take (i+1)).map kW=ks' at *
  generalize (L.take i).map kW=ks at *
  rw[aG F7.eq_1]
  simp[f1,f3,f8,f9,f10,hi,he,hlH,Pl,n0,n1,aT,e98,hm,hf,e99,hj,gm,eW,gT,Y6,kJ,Pj,Dl,BR]
  generalize hF:upd _ 10 _=F
  refine ih' F _ rB (by rw[←hF];simp[f1]) (by rw[←hF];simp[f3]) (by rw[←hF];simp[f8]) (by rw[←hF];simp[f9]) (by rw[←hF];simp[hw]) ?_ ?_ (by simp;omega) dA
  ·simp[BR,Dl,n1]
  ·exact(x.set (Nat.le_refl _) Dl).push
theorem s51(t:Bool){m:Int}{L:List (Int×Int)}(ok:bP m L)(h1:1≤m)(h7:m≤12)(hL:L.length≤200)(gB:BP m L):pcF D t51 [.agg [.int .i64 m,eL t 2 aT L]]=some .nili:=by
 have hf:∀h,resolve true h 199 (eL t 2 aT L)=some (eL t 2 aT L):=fun h=>eF _ _ _ _ true h 199 (by decide)
 have bY:=gB.len h1
 have Oa:((xO m L 0).length:Int)=m:=by rw[bY];omega
 unfold pcF
 rw[aM _ _ _ _ (by simp[t51])]
 simp[t51]
 generalize hF:upd _ 10 _=F
 generalize hH:aA.push _ _=H
 refine l51 (fun r=>iK (fin [.t 2] r)=some .nili) t ok hL H (by rw[←hH];simp) (by rw[←hH];simp) L 0 F H rfl (by rw[←hF];simp) (by rw[←hF];simp) (by rw[←hF];simp) (by rw[←hF];simp) (by rw[←hF];simp) (by rw[←hH];simp;rfl) (.refl (by rw[←hH];simp) (by rw[←hH];simp)) (by rw[←hH];simp) fun F2 K f1 x=>?_
 have Pl:=(x.get 0 (by decide)).trans (show H.get 0=some (.arr 66 2 [.agg [.int .i64 m,eL t 2 aT L]] (some 1)) by rw[←hH];simp)
 have hlK:K.lim=0:=x.lim.trans (by rw[←hH];simp)
 have a1:¬m<1:=by omega
 have a2:¬64<m:=by omega
 have a3:¬(200:Int)<L.length:=by omega
 have a3':¬200<L.length:=by omega
 have hr:=fun(h:aA) wf hl=>q71 t ok (by omega) h7 (by omega) (a:=0) ⟨by decide,by omega⟩ (h:=h) wf hl
 obtain⟨mo,K2,hr1,hr2,hr3,hr4⟩:=hr (wl K K.n) (by simpa using x.wf) (Nat.le_refl _)
 have nL:(fQ eZ (lJ (xO m L 0))).length=(xO m L 0).length:=by simp[fQ,lJ]
 simp[F8,f1,Pl,a1,a2,a3,a3',hf,hlK,hr1,hr2,hr3,GK,gT,nL,Oa]
theorem Ts{m:Int}{L:List (Int×Int)}{a:Int}(ha:0≤a∧a<m){b c d:Int}(hb:(b,d)∈xO m L a)(hl:cJ m L b c=true):∃ e,(c,e)∈xO m L a∧e≤d+1:=by
 obtain⟨I,_⟩:=Bh (L:=L) ha
 obtain⟨j,hj,e⟩:=List.mem_iff_getElem.1 hb
 obtain⟨q,hq,e1,e2⟩:=I.cl j (b,d) hj (by rw[List.getElem?_eq_getElem hj,e]) c (nW.2 hl)
 exact⟨q.2,by rw[←e1];exact hq,e2⟩
theorem A4{m:Int}{L:List (Int×Int)}{a:Int}(ha:0≤a∧a<m):(a,0)∈xO m L a:=by
 obtain⟨I,_⟩:=Bh (L:=L) ha
 exact List.mem_of_getElem? I.st
theorem Bc{m:Int}{L L':List (Int×Int)}(h:∀l∈L,l∈L'){a b:Int}(hl:cJ m L a b=true):cJ m L' a b=true:=by
 unfold cJ at hl ⊢
 rw[List.any_eq_true]at hl ⊢
 obtain⟨l,h1,h2⟩:=hl
 exact⟨l,h l h1,h2⟩
theorem Rr(L:List (Int×Int))(a b:Int):∀l∈L,l∈qU L a b:=fun l hl=>by
 unfold qU;split
 ·exact hl
 ·exact List.mem_append_left _ hl
theorem At(m:Int):∀(r:List Int) (L:List (Int×Int)),∀l∈L,l∈tW m r L
 | [],L=>fun l hl=>hl
 | x::r,L=>fun l hl=>At m r _ l (Rr _ _ _ l hl)
theorem Z5{m:Int}{L:List (Int×Int)}{a b:Int}(ha:0≤a∧a<m)(hb:0≤b∧b<m)(cQ:a≠b):cJ m (qU L a b) a b=true:=by
 have MA:xJ m (a,b)=true:=decide_eq_true ⟨ha.1,ha.2,hb.1,hb.2,cQ⟩
 have BU:xJ m (b,a)=true:=decide_eq_true ⟨hb.1,hb.2,ha.1,ha.2,cQ.symm⟩
 unfold cJ
 rw[List.any_eq_true]
 unfold qU
 split
 ·rename_i h
  rcases h with h|h|h
  ·exact absurd h cQ
  ·exact⟨(a,b),h,by simp[MA]⟩
  ·exact⟨(b,a),h,by simp[BU]⟩
 ·exact⟨(a,b),by simp,by simp[MA]⟩
theorem Dw{m:Int}(under:List Int)(n:Nat):(n:Int)+1≤m→∀b:Nat,1≤b→b≤n→∃ u:Nat,u<b∧cJ m (sV under n) u b=true:=by
 induction n with
 | zero=>intro _ b h1 h2;omega
 | succ n ih =>
  intro hm b h1 h2
  by_cases hb:b≤n
  ·obtain⟨u,hu,hl⟩:=ih (by omega) b h1 hb
   exact⟨u,hu,Bc (Rr _ _ _) hl⟩
  ·have Db:b=n+1:=by omega
   subst Db
   have hw:=iD (pR under (n+1)) 0 (n:Int) (show(0:Int)≤(n:Int) by omega)
   refine⟨(cX (pR under (n+1)) 0 n).toNat,by omega,?_⟩
   rw[xL]
   have e:(((cX (pR under (n+1)) 0 n).toNat:Nat):Int)=cX (pR under (n+1)) 0 n:=by omega
   rw[e]
   have e2:((n+1:Nat):Int)=(n:Int)+1:=by omega
   rw[e2]
   exact Z5 ⟨by omega,by omega⟩ ⟨by omega,by omega⟩ (by omega)
theorem Zs{m:Int}(h1:1≤m)(under more:List Int):BP m (sJ m under more):=by
 have key:∀b:Nat,(b:Int)<m→∃ d,((b:Int),d)∈xO m (sJ m under more) 0:=by
  intro b
  induction b using Nat.strongRecOn with
  | _ b ih =>
   intro hb
   by_cases h0:b=0
   ·subst h0
    exact⟨0,A4 ⟨by decide,by omega⟩⟩
   ·obtain⟨u,hu,hl⟩:=Dw (m:=m) under (m-1).toNat (by omega) b (by omega) (by omega)
    obtain⟨d,hd⟩:=ih u hu (by omega)
    obtain⟨e,he,_⟩:=Ts ⟨by decide,by omega⟩ hd (Bc (At m _ _) hl)
    exact⟨e,he⟩
 intro b hb hm
 obtain⟨d,hd⟩:=key b.toNat (by omega)
 have e:((b.toNat:Nat):Int)=b:=by omega
 rw[e]at hd
 exact⟨d,hd⟩
end Go.Dm.Tc
/-
Faults: a chain of them,down to an error number;what is told of one.
-/
namespace Go.Dm.Tc
theorem tV:oC 4 .nili .nili=some true:=rfl
end Go.Dm.Tc
/-
Networks,part 7: a network as it lies;a new one.
-/
namespace Go.Dm.Tc
theorem GO{l:List Int}(h:gF l):∀{k:List Int},gF k→(∀x,x∈k↔x∈l)→k=l:=fun hk hm=>Ah hk h hm
theorem XU(t:Bool)(me:Int){bC:List Int}(hs:gF bC)(hn:bC.length≤1000000):pcF D t7 [.int .i64 me,eL t 1 bF bC]=some (aW .none ⟨me,bC,[],[],[],[]⟩):=by
 obtain⟨nr,h1,h2,h3,_⟩:=s7 t me bC hn
 rw[h1,GO hs h2 h3]
structure kI where
 lI:Int
 to:Int
 pub:ID
def TE(x:kI):DV:=.agg [.int .i64 x.lI,.int .i64 x.to,.int .i64 x.pub.bI,.int .i64 x.pub.seq]
def Ib(m:Int)(L:List (Int×Int))(bid nb q:Nat)(cr:DV):DO:=.arr 120 5 [.agg [.int .i64 m,eL false 2 aT L,.sl bid 6 0 nb,.ptr q 2 0 0,cr]] (some 1)
structure eG(h:aA)(nid bid q wid:Nat)(cr:DV)(m:Int)(L:List (Int×Int))(B:List aL)(W:ID→List Msg)(X:List kI):Prop where
 gn:h.get nid=some (Ib m L bid B.length q cr)
 gb:∃ sp cap,h.get bid=some (.arr 31 6 (B.map (aW .none)++sp) cap)
 Q:QAt h q wid (bH L) W
 ln:h.lim≤nid
 lb:h.lim≤bid
 cx:OwnR h.lim h cr 189 4 (X.map TE)
def Fi(m:Int)(L:List (Int×Int))(n:Nat):List aL:=(List.range n).map fun i:Nat=>⟨(i:Int),eO m L i,[],[],[],[]⟩
theorem Fh(m:Int)(L:List (Int×Int))(n:Nat):(Fi m L n).length=n:=by simp[Fi]
theorem W5(m:Int)(L:List (Int×Int))(n:Nat):Fi m L (n+1)=Fi m L n++[⟨(n:Int),eO m L n,[],[],[],[]⟩]:=by
 simp[Fi,List.range_succ]
theorem vN(m:Int)(L:List (Int×Int))(h:m≤12)(b:Int):(eO m L b).length≤12:=by
 unfold eO
 have:=List.length_filter_le (fun y=>cJ m L b y) ((List.range m.toNat).map fun i:Nat=>(i:Int))
 simp at this
 omega
theorem L6(ety sz bytes:Nat)(h:aA){α:Type}(t:Bool)(e:α→DV):nJ ety sz bytes h [eL t sz e []]=some (.nsl,h.push .dead):=by
 have he:elems h sz (eL t sz e [])=some []:=fX ..
 simp[nJ,bO,he,gS]
theorem GR{ety sz bytes:Nat}{h:aA}{α:Type}{t:Bool}{e:α→DV}{xs:List α}(cQ:xs≠[])(hb:∀x,dQ 200 0 (e x)=true)(hl:xs.length*bytes≤140737488355328)(h2:xs.length≤1000000)(wf:WF h)(bE:h.lim≤h.n) :
  ∃ K,nJ ety sz bytes h [eL t sz e xs]=some (eL false sz e xs,K)∧Ext h.n h K:=by
 have he:elems h sz (eL t sz e xs)=some (xs.map e):=fX ..
 have hi:(xs.map e).isEmpty=false:=by cases xs<;>simp_all
 have gB:(xs.map e).all (dQ 200 0)=true:=by
  rw[List.all_eq_true]
  intro y hy
  obtain⟨x,_,rfl⟩:=List.mem_map.1 hy
  exact hb x
 have hg:((h.push (.arr ety sz [] (some 0))).push (.arr ety sz (xs.map e) none)).get (h.n+1)=some (.arr ety sz (xs.map e) none):=by simp
 refine⟨((h.push (.arr ety sz [] (some 0))).push (.arr ety sz (xs.map e) none)).set (h.n+1) .dead,?_,(((Ext.refl (Nat.le_refl _) wf).push).push).set (Nat.le_succ _) (by simp)⟩
 simp only[nJ,bO,he,hi,List.length_map]
 rw[if_neg (by simp),if_pos ⟨hl,by omega⟩]
 simp only[gS,hg]
 have Oa:((h.push (.arr ety sz [] (some 0))).push (.arr ety sz (xs.map e) none)).lim≤h.n+1:=by simp;omega
 rw[if_pos ⟨trivial,Oa,by simp,by rw[List.drop_zero,List.take_of_length_le (by simp)];exact gB⟩]
 have OK:mkIsl false sz (((xs.map e).drop 0).take xs.length)=eL false sz e xs:=by
  rw[List.drop_zero,List.take_of_length_le (by simp)]
  cases xs with
  | nil=>exact absurd rfl cQ
  | cons x r=>rfl
 rw[OK]
theorem C8(x:Int×Int):dQ 200 0 (aT x)=true:=rfl
theorem s53(t:Bool)(m:Int)(L:List (Int×Int))(hL:L.length≤1000000):pcF D t53 [.agg [.int .i64 m,eL t 2 aT L]]=some (.agg [.int .i64 m,eL false 2 aT L]):=by
 unfold pcF
 rw[aM _ _ _ _ (by simp[t53])]
 by_cases cQ:L=[]
 ·subst cQ
  have hc:=fun h=>L6 76 2 16 h t aT
  simp[t53,XD]
  rw[L6 76 2 16]
  simp[turn,aV]
  rfl
 ·simp[t53,XD]
  obtain⟨K,h1,x⟩:=GR (ety:=76) (bytes:=16) (h:=(sX.push (.arr 66 2 [.agg [.int .i64 m,eL t 2 aT L]] (some 1))).push (.arr 66 2 [.agg [.int .i64 0,.nsl]] (some 1))) (t:=t) cQ C8 (by omega) (by omega) (by simp) (by simp)
  rw[h1]
  have g0:=x.get 0 (by simp)
  have g1:=x.get 1 (by simp)
  have lim:=x.lim
  have wf:=x.wf
  have hn:=x.le
  simp at g0 g1 lim hn
  have n1:1<K.n:=by omega
  have n0:0<K.n:=by omega
  simp[g0,g1,lim,wf,n0,n1,turn,aV]
  exact Pv 176 L
theorem q54(t:Bool){m:Int}{L:List (Int×Int)}(ok:bP m L)(hL:L.length≤100000)(h:aA)(wf:WF h)(bE:h.lim≤h.n) :
  ∃ h',fc D 54 [.agg [.int .i64 m,eL t 2 aT L]] h=some (.ptr (h.n+2) 2 0 0,h')∧QAt h' (h.n+2) (h.n+1) (bH L) (fun _=>[])∧Ext h.n h h'∧h'.n=h.n+3:=by
 have hW:=YD t ok hL
 have hf:∀h,resolve true h 199 (eL t 2 aT L)=some (eL t 2 aT L):=fun h=>eF _ _ _ _ true h 199 (by decide)
 rw[e54,aM _ _ _ _ (by simp[t54])]
 simp[t54,ZP,hW,hf]
 refine⟨⟨?_,⟨[],?_,⟨by simp,fun x=>.inl ⟨rfl,rfl⟩⟩⟩,?_,?_⟩,?_⟩
 ·simp[qO,wf]
 ·simp[wf];rfl
 ·simp;omega
 ·simp;omega
 ·exact(((Ext.refl (Nat.le_refl _) wf).push).push).push
theorem l18(P:Res→Prop)(t:Bool){m:Int}{L:List (Int×Int)}(ok:bP m L)(h0:0≤m)(h7:m≤12)(hL:L.length≤100000)(h:aA)(bE:h.lim≤h.n)(gid q wid nid:Nat)(Cz:gid=h.n)(hnid:nid=h.n+4) :
  ∀(k i:Nat) (f:dX) (K:aA),(i+k:Nat)=m.toNat→f 1=.ptr gid 2 0 0→f 5=.ptr nid 5 0 0→f 20=.int .i64 m→f 21=.int .i64 i→h.n+5≤K.n→Ext h.n h K→K.get gid=some (.arr 66 2 [.agg [.int .i64 m,eL t 2 aT L]] (some 1))→QAt K q wid (bH L) (fun _=>[])→q<h.n+4→wid<h.n+4 →
  (∃ v,K.get nid=some (.arr 120 5 [.agg [.int .i64 m,eL false 2 aT L,v,.ptr q 2 0 0,.nsl]] (some 1))∧OwnR (h.n+5) K v 31 6 ((Fi m L i).map (aW .none))) →
  (∀F H,F 5=.ptr nid 5 0 0→Ext h.n h H→QAt H q wid (bH L) (fun _=>[])→(∃ v,H.get nid=some (.arr 120 5 [.agg [.int .i64 m,eL false 2 aT L,v,.ptr q 2 0 0,.nsl]] (some 1))∧OwnR (h.n+5) H v 31 6 ((Fi m L m.toNat).map (aW .none)))→P (run D 40 [] H7 F H)) →
  P (run D 40 [.block 0,.seq H7] (.loop H6) f K):=by
 intro k
 induction k with
 | zero =>
  intro i f K hi f1 f5 f20 f21 hn x gg Q hq hw hv dA
  have him:i=m.toNat:=by omega
  have:¬((i:Int)<m):=by omega
  rw[aG H6.eq_1]
  simp[f20,f21,this]
  subst him
  exact dA _ _ (by simp[f5]) x Q hv
 | succ k ih =>
  intro i f K hi f1 f5 f20 f21 hn x gg Q hq hw hv dA
  obtain⟨v,gn,ow⟩:=hv
  have aZ:(i:Int)<m:=by omega
  have L7:IntKind.i64.wrap ((i:Int)+1)=(i:Int)+1:=bJ (by omega) (by omega)
  have hN:=OB t (i:Int) ok h0 h7 (by omega:L.length≤1000000)
  have hA':=XU false (i:Int) (sC m L i) (by have:=vN m L h7 i;omega)
  have hf:∀h,resolve true h 199 (eL t 2 aT L)=some (eL t 2 aT L):=fun h=>eF _ _ _ _ true h 199 (by decide)
  have Oa:K.lim≤h.n:=by rw[x.lim];exact bE
  have wf:=x.wf
  have n1:¬nid=K.n:=by omega
  have n2:¬gid=K.n:=by omega
  have nK:nid<K.n:=by omega
  have st:=ow.aO
  have ec:=ow.aF
  have hnear:(eO m L (i:Int)).length≤12:=vN m L h7 i
  rw[aG H6.eq_1]
  simp[f1,f5,f20,f21,aZ,gg,gn,ec,e55,hN,hf,e7,hA',n1,n2]
  generalize hA:bB _ _ _ _ _ _=A
  obtain⟨v',K',rfl,Ab,oJ,_⟩:=ow.push.append wf.push (by simp;omega) (by simp;omega) hA (by simp[Fh];omega) (by decide)
  clear hA
  have gn':K'.get nid=some (.arr 120 5 [.agg [.int .i64 m,eL false 2 aT L,v,.ptr q 2 0 0,.nsl]] (some 1)):=by
   rw[oJ.get nid (by omega),aN nK];exact gn
  have wf':=oJ.wf
  have xt:Ext h.n h K':=(x.push).trans (oJ.lower (by omega))
  have lm':K'.lim≤h.n:=by rw[xt.lim];exact bE
  have st':=Ab.aO
  have ec':=Ab.aF
  have nK':nid<K'.n:=aC gn'
  have lm2:K'.lim≤nid:=by omega
  have gg':K'.get gid=some (.arr 66 2 [.agg [.int .i64 m,eL t 2 aT L]] (some 1)):=by
   rw[oJ.get gid (by omega),aN (aC gg)];exact gg
  have Q':QAt K' q wid (bH L) (fun _=>[]):=by
   have qq:=Q.gq
   obtain⟨ms,qw,_⟩:=Q.gw
   exact Q.old (xt.lim.trans x.lim.symm) (by rw[oJ.get q (by omega),aN (aC qq)]) (by rw[oJ.get wid (by omega),aN (aC qw)])
  simp[f5,gn',st',ec',lm2,turn,f21,L7]
  generalize hF:upd _ 21 _=F
  refine ih (i+1) F _ (by omega) (by rw[←hF];simp[f1]) (by rw[←hF];simp[f5]) (by rw[←hF];simp[f20]) (by rw[←hF];simp) (by have:=oJ.le;simp;omega) (xt.set (by omega) nK') ?_ ?_ hq hw ⟨v',cN wf' gn',?_⟩ dA
  ·rw[aR nK' (by omega)];exact gg'
  ·exact Q'.old rfl (aR nK' (by omega)) (aR nK' (by omega))
  ·have:=Ab.aQ (o:=.arr 120 5 [.agg [.int .i64 m,eL false 2 aT L,v',.ptr q 2 0 0,.nsl]] (some 1)) wf' (show nid<h.n+5 by omega) nK'
   rw[W5,List.map_append]
   exact this
theorem q18(t:Bool){m:Int}{L:List (Int×Int)}(ok:bP m L)(h1:1≤m)(h7:m≤12)(hL:L.length≤200)(gB:BP m L)(h:aA)(wf:WF h)(bE:h.lim≤h.n) :
  ∃ bid h',fc D 18 [.agg [.int .i64 m,eL t 2 aT L]] h=some (.tup [.ptr (h.n+4) 5 0 0,.nili],h')∧eG h' (h.n+4) bid (h.n+3) (h.n+2) .nsl m L (Fi m L m.toNat) (fun _=>[]) []∧Ext h.n h h'∧h.n≤bid:=by
 have hC:=s51 t ok h1 h7 hL gB
 have hcp:=s53 t m L (by omega)
 have hf:∀h,resolve true h 199 (eL t 2 aT L)=some (eL t 2 aT L):=fun h=>eF _ _ _ _ true h 199 (by decide)
 obtain⟨K,hq,Q,xq,nq⟩:=q54 t ok (by omega) (h.push (.arr 66 2 [.agg [.int .i64 m,eL t 2 aT L]] (some 1))) wf.push (by simp;omega)
 simp at hq Q xq nq
 have gg:=(xq.get h.n (by omega)).trans (show(h.push (.arr 66 2 [.agg [.int .i64 m,eL t 2 aT L]] (some 1))).get h.n=some (.arr 66 2 [.agg [.int .i64 m,eL t 2 aT L]] (some 1)) by simp)
 have xh:Ext h.n h K:=((Ext.refl (Nat.le_refl _) wf).push).trans (xq.lower (by omega))
 rw[e18,aM _ _ _ _ (by simp[t18])]
 have ng:¬h.n=K.n:=by omega
 simp[t18,e51,hC,hf,tV,e53,hcp,hq,gg,ng,nq]
 have e2:h.n+1+2=h.n+3:=rfl
 have e3:h.n+1+3=h.n+4:=rfl
 have e1:h.n+1+1=h.n+2:=rfl
 rw[e1,e2]at Q
 rw[e2,e3]
 generalize hF:upd _ 21 _=F
 have gg2:(K.push (.arr 120 5 [.agg [.int .i64 m,eL false 2 aT L,.nsl,.ptr (h.n+3) 2 0 0,.nsl]] (some 1))).get h.n=some (.arr 66 2 [.agg [.int .i64 m,eL t 2 aT L]] (some 1)):=by
  rw[aN (by omega)];exact gg
 have nK:K.n=h.n+4:=by omega
 have gnn:(K.push (.arr 120 5 [.agg [.int .i64 m,eL false 2 aT L,.nsl,.ptr (h.n+3) 2 0 0,.nsl]] (some 1))).get (h.n+4)=some (.arr 120 5 [.agg [.int .i64 m,eL false 2 aT L,.nsl,.ptr (h.n+3) 2 0 0,.nsl]] (some 1)):=by
  rw[←nK];simp
 have QP:QAt (K.push (.arr 120 5 [.agg [.int .i64 m,eL false 2 aT L,.nsl,.ptr (h.n+3) 2 0 0,.nsl]] (some 1))) (h.n+3) (h.n+2) (bH L) (fun _=>[]):=by
  have qq:=Q.gq
  obtain⟨ms,qw,_⟩:=Q.gw
  exact Q.old rfl (aN (aC qq)) (aN (aC qw))
 refine l18 (fun r=>∃ bid h',fin [.t 2,.t 3] r=some (.tup [.ptr (h.n+4) 5 0 0,.nili],h')∧eG h' (h.n+4) bid (h.n+3) (h.n+2) .nsl m L (Fi m L m.toNat) (fun _=>[]) []∧Ext h.n h h'∧h.n≤bid) t ok (by omega) h7 (by omega) h bE h.n (h.n+3) (h.n+2) (h.n+4) rfl rfl m.toNat 0 F _ (by omega) (by rw[←hF];simp) (by rw[←hF];simp) (by rw[←hF];simp) (by rw[←hF];simp) (by simp;omega) xh.push gg2 QP (by omega) (by omega) ⟨.nsl,gnn,.nil rfl rfl⟩ ?_
 intro F2 H f5 x2 Q2 ⟨v,gn,ow⟩
 cases ow with
 | nil hv hx =>
  exfalso
  have:=congrArg List.length hx
  rw[List.length_map,Fh]at this
  simp only[List.length_nil]at this
  omega
 | arr bid sp cap hv hg hl eN =>
  have hlh:H.lim≤h.n:=by rw[x2.lim];exact bE
  refine⟨bid,H,by simp[H7,f5,aV],⟨?_,⟨sp,cap,hg⟩,Q2,by omega,hl,.nil rfl rfl⟩,x2,by omega⟩
  rw[gn,hv,List.length_map]
  rfl
end Go.Dm.Tc
/-
Networks,part 8: a broker asked for.
-/
namespace Go.Dm.Tc
variable {h:aA} {nid bid q wid:Nat} {cr:DV} {m:Int} {L:List (Int×Int)} {B:List aL} {W:ID→List Msg} {X:List kI}
structure BO(h:aA)(nid bid q:Nat)(cr:DV)(m:Int)(L:List (Int×Int))(B:List aL):Prop where
 gn:h.get nid=some (Ib m L bid B.length q cr)
 gb:∃ sp cap,h.get bid=some (.arr 31 6 (B.map (aW .none)++sp) cap)
theorem eG.R(A:eG h nid bid q wid cr m L B W X):BO h nid bid q cr m L B:=⟨A.gn,A.gb⟩
theorem BO.push(A:BO h nid bid q cr m L B)(o:DO):BO (h.push o) nid bid q cr m L B:=by
 obtain⟨sp,cap,gb⟩:=A.gb
 exact⟨by rw[aN (aC A.gn)];exact A.gn,sp,cap,by rw[aN (aC gb)];exact gb⟩
theorem WK(A:BO h nid bid q cr m L B)(b:Int):fc D 102 [.ptr nid 5 0 0,.int .i64 b] h=some (.bool (decide (0≤b∧b<B.length)),h):=by
 have gn:=A.gn
 simp only[Ib]at gn
 rw[ZO,aM _ _ _ _ (by simp[DE])]
 by_cases h1:0≤b<;>by_cases h2:b<B.length<;>simp[DE,gn,h1,h2]
theorem zX{lo:Nat}{h:aA}{v:DV}{ety sz:Nat}{xs:List DV}(w:Own lo h v ety sz xs):OwnR lo h v ety sz xs:=w.toR
structure Le(lo:Nat)(h:aA)(v1 v2 v3 v4 v5:DV)(b:aL):Prop where
 r1:OwnR lo h v1 3 1 (b.bC.map bF)
 r2:OwnR lo h v2 37 4 (b.aX.map aH)
 r3:OwnR lo h v3 24 2 (b.seen.map eID)
 r4:OwnR lo h v4 58 7 (b.entries.map bQ)
 r5:OwnR lo h v5 102 3 (b.kC.map oY)
theorem Le.ext{lo:Nat}{h h':aA}{v1 v2 v3 v4 v5:DV}{b:aL}(s:Le lo h v1 v2 v3 v4 v5 b)(x:Ext h.n h h'):Le lo h' v1 v2 v3 v4 v5 b:=⟨s.r1.ext x,s.r2.ext x,s.r3.ext x,s.r4.ext x,s.r5.ext x⟩
def UC:iB:=⟨true,true,true,true,true⟩
theorem Le.res{lo:Nat}{h:aA}{v1 v2 v3 v4 v5:DV}{b:aL}(s:Le lo h v1 v2 v3 v4 v5 b)(n:Nat):resolve true h (n+23) (.agg [.int .i64 b.me,v1,v2,v3,v4,v5])=some (aW UC b):=by
 have q1:=s.r1.resolve (n:=n+22) true (fun y _=>(dD y).1) (by omega)
 have q2:=s.r2.resolve (n:=n+22) true (fun y _=>(fJ y).1) (by omega)
 have q3:=s.r3.resolve (n:=n+22) true (fun y _=>(jN y).1) (by omega)
 have q4:=s.r4.resolve (n:=n+22) true (fun y _=>(fL y).1) (by omega)
 have q5:=s.r5.resolve (n:=n+22) true (fun y _=>(iY y).1) (by omega)
 show(match([.int .i64 b.me,v1,v2,v3,v4,v5]:List DV).mapM (resolve true h (n+22))with|some c=>some (DV.agg c)|none=>none)=_
 simp only[List.mapM_cons,List.mapM_nil,q1,q2,q3,q4,q5]
 rfl
set_option maxHeartbeats 4000000 in
theorem q67(A:BO h nid bid q cr m L B)(wf:WF h)(bE:h.lim≤h.n)(k:Nat){b:aL}(hb:B[k]?=some b)(z:zV b) :
  ∃ v1 v2 v3 v4 v5 h',fc D 67 [.ptr nid 5 0 0,.int .i64 k] h=some (.agg [.int .i64 b.me,v1,v2,v3,v4,v5],h')∧Le h.n h' v1 v2 v3 v4 v5 b∧Ext h.n h h':=by
 have hk:=(List.getElem?_eq_some_iff.1 hb).1
 have gn:=A.gn
 obtain⟨sp,cap,gb⟩:=A.gb
 simp only[Ib]at gn
 have hT:=WK (A.push (.arr 31 6 [.agg [.int .i64 0,.nsl,.nsl,.nsl,.nsl,.nsl]] (some 1))) (k:Int)
 rw[decide_eq_true ⟨by omega,by omega⟩]at hT
 have uE:aS 6 (.sl bid 6 0 B.length) (.int .i64 (k:Int))=some (.ptr bid 6 k 0):=by simp[aS,asI,hk]
 have nL:(B.map (aW .none)++sp)[k]?=some (aW .none b):=by rw[List.getElem?_append_left (by simp;exact hk),List.getElem?_map,hb];rfl
 have ln:=aC gn
 have lb:=aC gb
 have n1:¬nid=h.n:=by omega
 have n2:¬bid=h.n:=by omega
 obtain⟨z1,z2,z3,z4,z5⟩:=z
 rw[e67,aM _ _ _ _ (by simp[t67])]
 have hm:max (h.n+1+1) h.lim=h.n+2:=by omega
 have hlm1:h.lim≤h.n+1:=by omega
 obtain⟨me,bC,adv,seen,ent,own⟩:=b
 simp only at z1 z2 z3 z4 z5
 simp[t67,hT,gn,gb,n1,n2,uE,nL,hlm1,aW,eY,e36,hm]
 generalize hA:bO _ _ _ _ _=A
 obtain⟨v1,H1,rfl,o1,x1,y1⟩:=mU (lo:=h.n+2) hA (fX ..) wf.push.push (by simp) (by simp) (by simp;omega) (by simp;omega) (by decide)
 have Ki:Ext h.n h ((h.push (.arr 31 6 [.agg [.int .i64 0,.nsl,.nsl,.nsl,.nsl,.nsl]] (some 1))).push (.arr 31 6 [.agg (eY .none ⟨me,bC,adv,seen,ent,own⟩)] (some 1))):=(Ext.refl (Nat.le_refl _) wf).push.push
 have z1:=Ki.trans (x1.lower (by omega:h.n≤h.n+2))
 clear hA
 simp at x1 y1 z1 o1
 generalize hK1:wl H1 _=K1 at *
 have a1:=x1.get h.n (by omega)
 have b1:=x1.get (h.n+1) (by omega)
 have q1:=x1.lim
 have w1:=x1.wf
 have n1:=x1.le
 simp at a1 b1 q1
 simp[hK1,a1,q1,hm,e72]
 generalize hA:bO _ _ _ _ _=A
 obtain⟨v2,H2,rfl,o2,x2,y2⟩:=mU (lo:=h.n+2) hA (fX ..) w1 n1 n1 (by omega) (by simp;omega) (by decide)
 rw[q1]at o2 x2 y2
 have z2:=z1.trans (x2.lower (by omega:h.n≤h.n+2))
 replace o1:=o1.ext y2
 clear hA
 generalize hK2:wl H2 _=K2 at *
 have a2:=x2.get h.n (by omega)
 have b2:=x2.get (h.n+1) (by omega)
 have q2:=x2.lim
 have w2:=x2.wf
 have n2:=x2.le
 rw[a1]at a2
 rw[b1]at b2
 rw[q1]at q2
 simp[hK2,a2,q1,q2,hm,e73]
 generalize hA:bO _ _ _ _ _=A
 obtain⟨v3,H3,rfl,o3,x3,y3⟩:=mU (lo:=h.n+2) hA (fX ..) w2 n2 n2 (by omega) (by simp;omega) (by decide)
 rw[q2]at o3 x3 y3
 have z3:=z2.trans (x3.lower (by omega:h.n≤h.n+2))
 replace o1:=o1.ext y3
 replace o2:=o2.ext y3
 clear hA
 generalize hK3:wl H3 _=K3 at *
 have a3:=x3.get h.n (by omega)
 have b3:=x3.get (h.n+1) (by omega)
 have q3:=x3.lim
 have w3:=x3.wf
 have n3:=x3.le
 rw[a2]at a3
 rw[b2]at b3
 rw[q2]at q3
 simp[hK3,a3,q2,q3,hm,e74]
 generalize hA:bO _ _ _ _ _=A
 obtain⟨v4,H4,rfl,o4,x4,y4⟩:=mU (lo:=h.n+2) hA (fX ..) w3 n3 n3 (by omega) (by simp;omega) (by decide)
 rw[q3]at o4 x4 y4
 have z4:=z3.trans (x4.lower (by omega:h.n≤h.n+2))
 replace o1:=o1.ext y4
 replace o2:=o2.ext y4
 replace o3:=o3.ext y4
 clear hA
 generalize hK4:wl H4 _=K4 at *
 have a4:=x4.get h.n (by omega)
 have b4:=x4.get (h.n+1) (by omega)
 have q4:=x4.lim
 have w4:=x4.wf
 have n4:=x4.le
 rw[a3]at a4
 rw[b3]at b4
 rw[q3]at q4
 simp[hK4,a4,q3,q4,hm,e44]
 generalize hA:bO _ _ _ _ _=A
 obtain⟨v5,K5,rfl,o5,x5,y5⟩:=vW (lo:=h.n+2) (fX ..) w4 n4 (by omega) (by simp;omega) (by decide) hA
 have z5:=z4.trans (x5.lower (by omega:h.n≤h.n+2))
 replace o1:=o1.ext y5
 replace o2:=o2.ext y5
 replace o3:=o3.ext y5
 replace o4:=o4.ext y5
 clear hA
 have a5:=x5.get h.n (by omega)
 have b5:=x5.get (h.n+1) (by omega)
 have q5:=x5.lim
 have w5:=x5.wf
 have n5:=x5.le
 rw[a4]at a5
 rw[b4]at b5
 rw[q4]at q5
 have c5:h.n<K5.n:=by omega
 have d5:h.n+1<K5.n:=by omega
 have f5:h.lim≤h.n+1:=by omega
 simp[a5,b5,q5,w5,c5,d5,f5,bE,o1.aO,o2.aO,o3.aO,o4.aO,o5.aO,o1.aF,o2.aF,o3.aF,o4.aF,o5.aF,turn]
 refine⟨v1,v2,v3,v4,v5,_,⟨⟨rfl,rfl,rfl,rfl,rfl⟩,rfl⟩,⟨zX ?_,zX ?_,zX ?_,zX ?_,zX ?_⟩,?_⟩
 ·exact((o1.aQ w5 (by omega) d5).aQ w5.set (by omega) c5).lower (by omega)
 ·exact((o2.aQ w5 (by omega) d5).aQ w5.set (by omega) c5).lower (by omega)
 ·exact((o3.aQ w5 (by omega) d5).aQ w5.set (by omega) c5).lower (by omega)
 ·exact((o4.aQ w5 (by omega) d5).aQ w5.set (by omega) c5).lower (by omega)
 ·exact((o5.aQ w5 (by omega) d5).aQ w5.set (by omega) c5).lower (by omega)
 ·exact(z5.set (by omega) d5).set (by omega) c5
end Go.Dm.Tc
/-
Networks,part 9: messages sent.
-/
namespace Go.Dm.Tc
variable {h:aA} {nid bid q wid:Nat} {cr:DV} {m:Int} {L:List (Int×Int)} {B:List aL} {W:ID→List Msg} {X:List kI}
def FP(o:uZ):Msg:=⟨o.kind,o.tree,o.id,o.pred,[]⟩
def pO(u:Int)(W:ID→List Msg):List uZ→ID→List Msg
 | []=>W
 | o::r=>pO u (wC W ⟨u,o.to⟩ (W ⟨u,o.to⟩++[FP o])) r
theorem DT(W:ID→List Msg)(x:ID)(mm:Msg)(y:ID):(wC W x (W x++[mm]) y).length≤(W y).length+1:=by
 simp only[wC];split
 ·subst_vars;simp
 ·omega
theorem eG.key(A:eG h nid bid q wid cr m L B W X){i ety sz:Nat}{xs:List DV}{cap:Option Nat}(g:h.get i=some (.arr ety sz xs cap))(hs:sz≠2):i ∉ [q,wid]:=by
 have gq:=A.Q.gq
 obtain⟨ms,gw,_⟩:=A.Q.gw
 intro hm;simp only[List.mem_cons,List.not_mem_nil,or_false]at hm
 rcases hm with rfl|rfl
 ·rw[gq]at g;simp[qO]at g;exact hs g.2.1.symm
 ·rw[gw]at g;cases g
theorem eG.nq(A:eG h nid bid q wid cr m L B W X):nid ∉ [q,wid]:=A.key A.gn (by decide)
theorem eG.upd(A:eG h nid bid q wid cr m L B W X){H:aA}{W':ID→List Msg}(U:Upd h H [q,wid] [q,wid])(Q:QAt H q wid (bH L) W'):eG H nid bid q wid cr m L B W' X:=by
 have key:∀{i ety sz:Nat} {xs:List DV} {cap:Option Nat},h.get i=some (.arr ety sz xs cap)→sz≠2→H.get i=some (.arr ety sz xs cap):=fun g hs=>by
  rw[U.old _ (aC g) (A.key g hs)];exact g
 obtain⟨sp,cap,gb⟩:=A.gb
 have gn:=A.gn
 refine⟨key gn (by decide),⟨sp,cap,key gb (by decide)⟩,Q,by rw[U.lim];exact A.ln,by rw[U.lim];exact A.lb,?_⟩
 rw[U.lim]
 cases A.cx with
 | nil hv hx=>exact .nil hv hx
 | arr id sp cap hv hg hl hi=>exact .arr id sp cap hv (key hg (by decide)) (by rw[U.lim];exact hl) hi
theorem l64(P:Res→Prop)(t:Bool)(u:Int)(gI:List uZ)(hw:(bH L).length≤1000000)(ho:∀o∈gI,(u,o.to)∈bH L∧o.kind≠5)(eN:gI.length≤1000000) :
  ∀(k i:Nat) (f:dX) (K:aA) (W:ID→List Msg),i+k=gI.length→f 0=.ptr nid 5 0 0→f 1=.int .i64 u→f 8=eL t 8 mZ gI→f 9=.int .i64 gI.length→f 10=.int .i64 i→eG K nid bid q wid cr m L B W X→WF K→K.lim≤K.n→(∀x,(W x).length+k≤300000) →
  (∀F H,eG H nid bid q wid cr m L B (pO u W (gI.drop i)) X→Upd K H [q,wid] [q,wid]→P (.ok .normal (Dm.tab 46 F) H)) →
  P (run D 46 [.block 0] (.loop F0) f K):=by
 intro k
 induction k with
 | zero =>
  intro i f K W hi f0 f1 f8 f9 f10 A wf hl hW dA
  have:¬((i:Int)<gI.length):=by omega
  rw[aG F0.eq_1]
  simp[f9,f10,this]
  have hd:gI.drop i=[]:=List.drop_eq_nil_iff.2 (by omega)
  rw[hd]at dA
  exact dA _ _ A (Upd.refl wf _)
 | succ k ih =>
  intro i f K W hi f0 f1 f8 f9 f10 A wf hl hW dA
  have aZ:(i:Int)<gI.length:=by omega
  have L7:IntKind.i64.wrap ((i:Int)+1)=(i:Int)+1:=bJ (by omega) (by omega)
  obtain⟨o,GW⟩:∃ o,gI[i]?=some o:=⟨_,List.getElem?_eq_getElem (by omega)⟩
  have Cy:=ho o (List.mem_of_getElem? GW)
  have gn:=A.gn
  simp only[Ib]at gn
  have nK:nid<K.n:=aC gn
  have n3:¬nid=K.n:=by omega
  have n4:¬nid=K.n+1:=by omega
  rw[aG F0.eq_1]
  simp[f0,f1,f8,f9,f10,aZ,gn,GW,n3,n4,hl,mZ,fG,turn]
  have gq:=A.Q.gq
  obtain⟨ms,gw,_⟩:=A.Q.gw
  have nq:q<K.n:=aC gq
  have nw:wid<K.n:=aC gw
  have hW1:=hW ⟨u,o.to⟩
  have A2:QAt ((K.push (.arr 54 8 [.agg [.int .i64 o.to,.int .i64 o.kind,.int .i64 o.tree.bI,.int .i64 o.tree.seq,.int .i64 o.id.bI,.int .i64 o.id.seq,eL false 5 wW o.pred,.isl false 0 []]] (some 1))).push (.arr 52 7 [.agg [.int .i64 o.kind,.int .i64 o.tree.bI,.int .i64 o.tree.seq,.int .i64 o.id.bI,.int .i64 o.id.seq,eL false 5 wW o.pred,.isl false 0 []]] (some 1))) q wid (bH L) W:=by
   refine A.Q.old rfl ?_ ?_
   ·rw[aN (by simp;omega),aN nq]
   ·rw[aN (by simp;omega),aN nw]
  obtain⟨H,e,Q',U⟩:=YI A2 wf.push.push hw Cy.1 (m:=FP o) (mid:=K.n+1) (e0:=.agg [.int .i64 o.kind,.int .i64 o.tree.bI,.int .i64 o.tree.seq,.int .i64 o.id.bI,.int .i64 o.id.seq,eL false 5 wW o.pred,.isl false 0 []]) (cap:=some 1) (by simp[wf.push]) (by
   intro n tag h
   have hF:jU 2 (kD (FP o)):=uI (k:=1) (by
    intro x hx;simp only[List.mem_cons,List.not_mem_nil,or_false]at hx
    rcases hx with rfl|rfl|rfl|rfl|rfl|rfl|rfl<;>first|exact iA _ _|exact eF _ _ _ _)
   exact hF tag h (n+2) (by omega)) (by omega)
  rw[e]
  have o1:=U.old K.n (by simp;omega) (by simp;omega)
  have o2:=U.old nid (by simp;omega) (by simpa using A.nq)
  have k5:¬o.kind=5:=Cy.2
  simp[o1,o2,aN,wf,nK,gn,n3,k5,f10,L7,turn]
  have U1:=(((Upd.refl wf [q,wid]).push _).push _).trans U
  have hd:gI.drop i=o::gI.drop (i+1):=by
   rw[List.drop_eq_getElem_cons (by omega)]
   congr 1
   exact(List.getElem?_eq_some_iff.1 GW).2
  rw[hd]at dA
  generalize hF:upd _ 10 _=F
  refine ih (i+1) F H _ (by omega) (by rw[←hF];simp[f0]) (by rw[←hF];simp[f1]) (by rw[←hF];simp[f8]) (by rw[←hF];simp[f9]) (by rw[←hF];simp) (A.upd U1 Q') U.wf (by rw[U1.lim];have:=U1.n;omega) (fun x=>?_) fun F' H' A' U'=>dA F' H' A' (U1.trans U')
  have h1:=DT W ⟨u,o.to⟩ (FP o) x
  have h2:=hW x
  omega
theorem q64(A:eG h nid bid q wid cr m L B W X)(wf:WF h)(hl:h.lim≤h.n)(t:Bool)(u:Int)(gI:List uZ)(hw:(bH L).length≤1000000)(ho:∀o∈gI,(u,o.to)∈bH L∧o.kind≠5)(eN:gI.length≤1000000)(hW:∀x,(W x).length+gI.length≤300000) :
  ∃ H,fc D 64 [.ptr nid 5 0 0,.int .i64 u,eL t 8 mZ gI] h=some (.tup [],H)∧eG H nid bid q wid cr m L B (pO u W gI) X∧Upd h H [q,wid] [q,wid]:=by
 rw[e64,aM _ _ _ _ (by simp[t64])]
 simp[t64]
 refine l64 (fun r=>∃ H,fin [] r=some (.tup [],H)∧eG H nid bid q wid cr m L B (pO u W gI) X∧Upd h H [q,wid] [q,wid]) t u gI hw ho eN gI.length 0 _ h W (by simp) (by simp) (by simp) (by simp) (by simp) (by simp) A wf hl hW fun F H A' U=>?_
 exact⟨H,by simp[AA,aV],A',U⟩
end Go.Dm.Tc
/-
What functions compute,part 36: an advertisement taken back;a broker's side.
-/
namespace Go.Dm.Tc
theorem _root_.Go.Dm.OwnR.wl{lo:Nat}{h:aA}{v:DV}{ety sz:Nat}{xs:List DV}(w:OwnR lo h v ety sz xs){m:Nat}(hm:m≤lo):OwnR lo (Dm.wl h m) v ety sz xs:=by
 cases w with
 | nil hv hx=>exact .nil hv hx
 | arr id sp cap hv hg hl hi=>exact .arr id sp cap hv hg (Nat.le_trans hm hi) hi
end Go.Dm.Tc
/-
Networks,part 10: a broker turned.
-/
namespace Go.Dm.Tc
variable {h:aA} {nid bid q wid:Nat} {cr:DV} {m:Int} {L:List (Int×Int)} {B:List aL} {W:ID→List Msg} {X:List kI}
theorem eG.ext(A:eG h nid bid q wid cr m L B W X){H:aA}(x:Ext h.n h H):eG H nid bid q wid cr m L B W X:=by
 obtain⟨sp,cap,gb⟩:=A.gb
 have gn:=A.gn
 have gq:=A.Q.gq
 obtain⟨ms,gw,_⟩:=A.Q.gw
 refine⟨by rw[x.get _ (aC gn)];exact gn,⟨sp,cap,by rw[x.get _ (aC gb)];exact gb⟩,A.Q.old x.lim (x.get _ (aC gq)) (x.get _ (aC gw)),by rw[x.lim];exact A.ln,by rw[x.lim];exact A.lb,?_⟩
 rw[x.lim];exact A.cx.ext x
theorem q56(A:eG h nid bid q wid cr m L B W X)(wf:WF h)(hl:h.lim≤h.n)(k:Nat){b b':aL}(hb:B[k]?=some b)(f:FuncId)(caps:List DV)(gI:List uZ)
  {h1:aA} (gQ:fc D f (aW .none b::caps) h=some (.tup [aW .none b',eL false 8 mZ gI],h1)) (x:Ext h.n h h1)
  (hw:(bH L).length≤1000000) (ho:∀o∈gI,((k:Int),o.to)∈bH L∧o.kind≠5) (eN:gI.length≤1000000) (hW:∀x,(W x).length+gI.length≤300000) :
  ∃ H,fc D 56 [.ptr nid 5 0 0,.int .i64 k,.func f caps] h=some (.nili,H)∧eG H nid bid q wid cr m L (B.set k b') (pO k W gI) X∧Upd h H [bid,q,wid] [bid,q,wid]:=by
 have hT:=WK A.R (k:Int)
 have hk:=(List.getElem?_eq_some_iff.1 hb).1
 rw[decide_eq_true ⟨by omega,by omega⟩]at hT
 have gn:=A.gn
 obtain⟨sp,cap,gb⟩:=A.gb
 simp only[Ib]at gn
 have uE:aS 6 (.sl bid 6 0 B.length) (.int .i64 (k:Int))=some (.ptr bid 6 k 0):=by simp[aS,asI,hk]
 have nL:(B.map (aW .none)++sp)[k]?=some (aW .none b):=by rw[List.getElem?_append_left (by simp;exact hk),List.getElem?_map,hb];rfl
 have ln:=aC gn
 have lb:=aC gb
 have xl:=x.lim
 have xn:=x.le
 have A1:=A.ext x
 have gn1:=A1.gn
 simp only[Ib]at gn1
 have gb1:=(x.get _ lb).trans gb
 have n1:¬nid=h1.n:=by omega
 have n2:¬bid=h1.n:=by omega
 have wf1:=x.wf
 have lb1:=aC gb1
 have Dl:h1.lim≤h1.n:=by omega
 rw[e56,aM _ _ _ _ (by simp[t56])]
 have nb:¬nid=bid:=by rintro rfl;rw[gb1]at gn1;simp at gn1
 have bn:¬bid=nid:=fun e=>nb e.symm
 have llb:=A1.lb
 have n5:¬h1.n=bid:=fun e=>n2 e.symm
 have key:∀{i:Nat} {o:DO},h1.get i=some o→i≠bid→∀(o1 o2:DO),((h1.set bid o1).push o2).get i=some o:=fun g cQ o1 o2=>by
  have:=aC g
  rw[aN (by simp;omega),aR lb1 cQ];exact g
 have A2:eG ((h1.set bid (.arr 31 6 ((B.map (aW .none)++sp).set k (aW .none b')) cap)).push (.arr 31 6 [aW .none b'] (some 1))) nid bid q wid cr m L (B.set k b') W X:=by
  have qq:=A1.Q.gq
  obtain⟨ms,qw,_⟩:=A1.Q.gw
  have hqb:q≠bid:=by rintro rfl;rw[gb1]at qq;simp[qO]at qq
  have hwb:wid≠bid:=by rintro rfl;rw[gb1]at qw;simp at qw
  refine⟨?_,⟨sp,cap,?_⟩,A1.Q.old rfl ?_ ?_,A1.ln,A1.lb,?_⟩
  ·simp only[List.length_set];exact key A1.gn nb _ _
  ·rw[aN (by simp;omega),cN wf1 gb1,List.set_append_left _ _ (by simp;exact hk),List.map_set]
  ·rw[key qq hqb,qq]
  ·rw[key qw hwb,qw]
  ·cases A1.cx with
   | nil hv hx=>exact .nil hv hx
   | arr id sp2 cap2 hv hg Vm hi=>exact .arr id sp2 cap2 hv (key hg (by rintro rfl;rw[gb1]at hg;simp at hg) _ _) Vm hi
 obtain⟨H,e,A3,U⟩:=q64 A2 (wf1.set.push) (by simp;omega) false (k:Int) gI hw ho eN hW
 simp[t56,hT,gn,gb,n1,n2,uE,nL,gQ,gn1,gb1,Dl,llb,lb1,nb,bn,n5,e]
 refine⟨A3,⟨by have:=U.n;simp at this;omega,by rw[U.lim];simpa using xl,U.wf,fun i hi hn=>?_,fun i hi=>.inl hi⟩⟩
 simp only[List.mem_cons,List.not_mem_nil,or_false,not_or]at hn
 rw[U.old i (by simp;omega) (by simp;exact hn.2),aN (by simp;omega),aR lb1 hn.1,x.get i hi]
end Go.Dm.Tc
/-
Networks,part 11: an advertisement Cv at a broker.
-/
namespace Go.Dm.Tc
variable {h:aA} {nid bid q wid:Nat} {cr:DV} {m:Int} {L:List (Int×Int)} {B:List aL} {W:ID→List Msg} {X:List kI}
end Go.Dm.Tc
/-
Networks,part 12: an advertisement taken back at a broker.
-/
namespace Go.Dm.Tc
variable {h:aA} {nid bid q wid:Nat} {cr:DV} {m:Int} {L:List (Int×Int)} {B:List aL} {W:ID→List Msg} {X:List kI}
end Go.Dm.Tc
/-
Networks,part 13: a link picked.
-/
namespace Go.Dm.Tc
variable {h:aA} {nid bid q wid:Nat} {cr:DV} {m:Int} {L:List (Int×Int)} {B:List aL} {W:ID→List Msg} {X:List kI}
theorem q22(A:eG h nid bid q wid cr m L B W X)(wf:WF h)(hl:h.lim≤h.n)(u:Int)(k:Nat){b b':aL}(hb:B[k]?=some b){ms:Msg}{r:List Msg}(hm:W ⟨u,k⟩=ms::r)(gI:List uZ)
  (hs:pcF D t63 [aW .none b,.int .i64 u,kD ms]=some (.tup [aW .none b',eL false 8 mZ gI,.isl false 0 []]))
  (hw:(bH L).length≤1000000) (ho:∀o∈gI,((k:Int),o.to)∈bH L∧o.kind≠5) (eN:gI.length≤1000000) (hW:∀x,(W x).length+gI.length≤300000) :
  ∃ H,fc D 22 [.ptr nid 5 0 0,.int .i64 u,.int .i64 k] h=some (.tup [.isl false 0 [],.nili],H)∧eG H nid bid q wid cr m L (B.set k b') (pO k (wC W ⟨u,k⟩ r) gI) X∧Upd h H [bid,q,wid] [bid,q,wid]:=by
 obtain⟨h1,e1,Q1,U1⟩:=q62 A.Q wf hm
 have A1:=A.upd U1 Q1
 have hk:=(List.getElem?_eq_some_iff.1 hb).1
 have gn:=A.gn
 have gn1:=A1.gn
 obtain⟨sp,cap,gb1⟩:=A1.gb
 simp only[Ib]at gn gn1
 have uE:aS 6 (.sl bid 6 0 B.length) (.int .i64 (k:Int))=some (.ptr bid 6 k 0):=by simp[aS,asI,hk]
 have nL:(B.map (aW .none)++sp)[k]?=some (aW .none b):=by rw[List.getElem?_append_left (by simp;exact hk),List.getElem?_map,hb];rfl
 have ln1:=aC gn1
 have lb1:=aC gb1
 have n1:¬nid=h1.n:=by omega
 have n2:¬bid=h1.n:=by omega
 have n3:¬nid=h1.n+1:=by omega
 have n4:¬bid=h1.n+1:=by omega
 have Dl:h1.lim≤h1.n:=by rw[U1.lim];have:=U1.n;omega
 simp only[kD]at e1 hs
 have Vm:h1.lim≤h1.n+1:=by omega
 have llb:=A1.lb
 have nb:¬nid=bid:=by rintro rfl;rw[gb1]at gn1;simp at gn1
 have lb2:bid<h1.n+1:=by omega
 have wf1:=U1.wf
 have key:∀{i:Nat} {o:DO},h1.get i=some o→i≠bid→∀(o1 o2 o3:DO),(((h1.set bid o1).push o2).push o3).get i=some o:=fun g cQ o1 o2 o3=>by
  have:=aC g
  rw[aN (by simp;omega),aN (by simp;omega),aR lb1 cQ];exact g
 have A2:eG (((h1.set bid (.arr 31 6 ((B.map (aW .none)++sp).set k (aW .none b')) cap)).push (.arr 52 7 [.agg [.int .i64 ms.kind,.int .i64 ms.tree.bI,.int .i64 ms.tree.seq,.int .i64 ms.id.bI,.int .i64 ms.id.seq,fG ms.pred,eL false 4 NB ms.HZ]] (some 1))).push (.arr 31 6 [aW .none b'] (some 1))) nid bid q wid cr m L (B.set k b') (wC W ⟨u,k⟩ r) X:=by
  have qq:=A1.Q.gq
  obtain⟨mm,qw,_⟩:=A1.Q.gw
  have hqb:q≠bid:=by rintro rfl;rw[gb1]at qq;simp[qO]at qq
  have hwb:wid≠bid:=by rintro rfl;rw[gb1]at qw;simp at qw
  refine⟨?_,⟨sp,cap,?_⟩,A1.Q.old rfl ?_ ?_,A1.ln,A1.lb,?_⟩
  ·simp only[List.length_set];exact key A1.gn nb _ _ _
  ·rw[aN (by simp;omega),aN (by simp;omega),cN wf1 gb1,List.set_append_left _ _ (by simp;exact hk),List.map_set]
  ·rw[key qq hqb,qq]
  ·rw[key qw hwb,qw]
  ·cases A1.cx with
   | nil hv hx=>exact .nil hv hx
   | arr id sp2 cap2 hv hg Vm hi=>exact .arr id sp2 cap2 hv (key hg (by rintro rfl;rw[gb1]at hg;simp at hg) _ _ _) Vm hi
 obtain⟨H,e,A3,U⟩:=q64 A2 (wf1.set.push.push) (by simp;omega) false (k:Int) gI hw ho eN (fun x=>by
  have:=hW x
  simp only[wC];split
  ·rename_i hx;subst hx;rw[hm]at this;simp at this;omega
  ·exact this)
 rw[e22,aM _ _ _ _ (by simp[t22])]
 simp[t22,gn,e1,gn1,gb1,n1,n2,n3,n4,uE,nL,e63,hs,Dl,Vm,llb,lb1,lb2,nb,e,aV,turn,oC,zK]
 refine⟨A3,⟨by have:=U.n;have:=U1.n;simp at *;omega,by rw[U.lim];simpa using U1.lim,U.wf,fun i hi hn=>?_,fun i hi=>.inl hi⟩⟩
 simp only[List.mem_cons,List.not_mem_nil,or_false,not_or]at hn
 have:=U1.n
 rw[U.old i (by simp;omega) (by simp;exact hn.2),aN (by simp;omega),aN (by simp;omega),aR lb1 hn.1,U1.old i hi (by simp;exact hn.2)]
end Go.Dm.Tc
/-
Networks,part 14: where something waits;the graph.
-/
namespace Go.Dm.Tc
variable {h:aA} {nid bid q wid:Nat} {cr:DV} {m:Int} {L:List (Int×Int)} {B:List aL} {W:ID→List Msg} {X:List kI}
theorem EV(A:eG h nid bid q wid cr m L B W X){v:DV}{H:aA}(hq:fc D 59 [.ptr q 2 0 0] h=some (v,H)):fc D 20 [.ptr nid 5 0 0] h=some (v,H):=by
 have gn:=A.gn
 simp only[Ib]at gn
 rw[e20,aM _ _ _ _ (by simp[t20])]
 simp[t20,gn,hq,turn,aV]
theorem q65(A:eG h nid bid q wid cr m L B W X)(wf:WF h)(hl:h.lim≤h.n)(hL:L.length≤1000000):∃ H,fc D 65 [.ptr nid 5 0 0] h=some (.agg [.int .i64 m,eL false 2 aT L],H)∧Ext h.n h H:=by
 have ln:=aC A.gn
 have n1:¬nid=h.n:=by omega
 have gn:=A.gn
 simp only[Ib]at gn
 have hc:=s53 false m L hL
 have hf:∀h,resolve true h 199 (eL false 2 aT L)=some (eL false 2 aT L):=fun h=>eF _ _ _ _ true h 199 (by decide)
 rw[e65,aM _ _ _ _ (by simp[t65])]
 simp[t65,gn,n1,hl,wf,e53,hc,hf,turn,aV]
 exact(Ext.refl (Nat.le_refl _) wf).push
end Go.Dm.Tc
/-
Floods at a broker vC own subscriptions: an advertisement comes,or its end;what a link's message does then;asked of the network.
-/
namespace Go.Dm.Tc
theorem _root_.Go.Dm.OwnR.wl0{lo:Nat}{h:aA}{v:DV}{ety sz:Nat}{xs:List DV}(w:OwnR lo h v ety sz xs){m:Nat}(hm:m≤lo):OwnR lo (Dm.wl h m) v ety sz xs:=by
 cases w with
 | nil hv hx=>exact .nil hv hx
 | arr id sp cap hv hg hl hi=>exact .arr id sp cap hv hg (Nat.le_trans hm hi) hi
structure zZ(b:aL):Prop where
 z:zV b
 ra:dP (b.aX.map (·.id))
 rs:dP b.seen
 own:b.kC=[]
def lS(b:aL)(lI:Int)(x:ID)(p:eD):aL×List uZ :=
 if x∈b.seen then(b,[])else((dG b ⟨x,p,lI⟩).1,lM b.bC lI 1 x.bI x.seq 0 0 p)
def jS(b:aL)(lI:Int)(x:ID):aL×List uZ :=
 if(fK b x lI).2=true then((fK b x lI).1,lM b.bC lI 2 x.bI x.seq 0 0 [])else(b,[])
theorem OA(b:aL)(xc xd lI:Int)(p:eD)(g:zZ b) :
  pcF D t58 [aW .none b,.int .i64 lI,.agg [.int .i64 xc,.int .i64 xd],fG p]=some (.tup [aW .none (lS b lI ⟨xc,xd⟩ p).1,eL false 8 mZ (lS b lI ⟨xc,xd⟩ p).2]):=by
 have hlearn:=s6 .none b xc xd p lI g.z g.ra g.rs
 unfold pcF
 rw[aM _ _ _ _ (by simp[t58])]
 by_cases hq:(⟨xc,xd⟩:ID)∈b.seen
 ·have hb:dG b ⟨⟨xc,xd⟩,p,lI⟩=(b,false):=by simp[dG,hq]
  rw[hb]at hlearn
  simp[t58,e6,hlearn,turn,aV,sP,lS,hq]
 ·have hb:(dG b ⟨⟨xc,xd⟩,p,lI⟩).2=true:=by simp[dG,hq]
  have hnear:(dG b ⟨⟨xc,xd⟩,p,lI⟩).1.bC=b.bC:=by unfold dG;split<;>rfl
  have howns:b.kC=[]:=g.own
  rw[hb]at hlearn
  simp[t58,e6,hlearn,turn,lS,hq]
  generalize hA:fc D _ _ _=A
  obtain⟨v1,K,rfl,o1,x1⟩:=WJ hA (by have:=g.z.bC;first|omega|(rw[hnear];omega)) (by simp) (by simp)
  clear hA
  have a0:=x1.get 0 (by simp)
  have a1:=x1.get 1 (by simp)
  have a2:=x1.get 2 (by simp)
  have a3:=x1.get 3 (by simp)
  have al:=x1.lim
  simp at a0 a1 a2 a3 al o1
  try simp only[hnear]at o1
  have eV:=xD (but:=lI) (k:=1) (tc:=xc) (td:=xd) (ic:=0) (id:=0) (pd:=fG p) (ad:=.nsl) (.inl rfl) (.inl rfl) b.bC
  have hn:=x1.le
  simp at hn
  have l2:2<K.n:=by omega
  have r1:∀o,resolve false (K.set 2 o) 199 v1=some (eL false 8 mZ (lM b.bC lI 1 xc xd 0 0 p)):=fun o=>K7 (o1.aQ (o:=o) x1.wf (by decide) l2) eV false (by decide)
  have hu:bA 199 (eL false 8 mZ (lM b.bC lI 1 xc xd 0 0 p))=true:=kP (fun y _=>(vJ y).2) 199 (by decide)
  simp[a0,a3,howns]
  rw[aG NQ.eq_1]
  simp[NR,a2,a3,al,l2,x1.wf,turn,aV,r1,hu,howns]
theorem NZ(b:aL)(xc xd lI:Int)(g:zZ b) :
  pcF D t61 [aW .none b,.int .i64 lI,.agg [.int .i64 xc,.int .i64 xd]]=some (.tup [aW .none (jS b lI ⟨xc,xd⟩).1,eL false 8 mZ (jS b lI ⟨xc,xd⟩).2]):=by
 have hf:=YC .none b xc xd lI g.z g.ra
 have hnear:(fK b ⟨xc,xd⟩ lI).1.bC=b.bC:=by
  unfold fK
  repeat' split
  all_goals rfl
 unfold pcF
 rw[aM _ _ _ _ (by simp[t61])]
 cases hq:(fK b ⟨xc,xd⟩ lI).2 with
 | false =>
  have ha:jS b lI ⟨xc,xd⟩=(b,[]):=by simp[jS,hq]
  have hb:(fK b ⟨xc,xd⟩ lI).1=b:=by
   unfold fK at hq ⊢
   split
   ·rfl
   ·rename_i a he
    rw[he]at hq
    simp only at hq
    split
    ·rename_i hs;rw[if_pos hs]at hq;cases hq
    ·rfl
  rw[hq,hb]at hf
  rw[ha]
  simp[t61,XC,hf,turn,aV,sP]
 | true =>
  have ha:jS b lI ⟨xc,xd⟩=((fK b ⟨xc,xd⟩ lI).1,lM b.bC lI 2 xc xd 0 0 []):=by simp[jS,hq]
  rw[hq]at hf
  rw[ha]
  simp[t61,XC,hf,turn,aV]
  generalize hA:fc D _ _ _=A
  obtain⟨v1,K,rfl,o1,x1⟩:=WJ hA (by have:=g.z.bC;first|omega|(rw[hnear];omega)) (by simp) (by simp)
  clear hA
  have a0:=x1.get 0 (by simp)
  have a1:=x1.get 1 (by simp)
  have a2:=x1.get 2 (by simp)
  have al:=x1.lim
  simp at a0 a1 a2 al o1
  try simp only[hnear]at o1
  have eV:=xD (but:=lI) (k:=2) (tc:=xc) (td:=xd) (ic:=0) (id:=0) (pd:=.nsl) (ad:=.nsl) (p:=[]) (.inr ⟨rfl,rfl⟩) (.inl rfl) b.bC
  have hn:=x1.le
  simp at hn
  have l2:2<K.n:=by omega
  have r1:∀o,resolve false (Dm.wl (K.set 2 o) 0) 199 v1=some (eL false 8 mZ (lM b.bC lI 2 xc xd 0 0 [])):=fun o=>K7 ((o1.aQ (o:=o) x1.wf (by decide) l2).wl0 (Nat.zero_le _)) eV false (by decide)
  have hu:bA 199 (eL false 8 mZ (lM b.bC lI 2 xc xd 0 0 []))=true:=kP (fun y _=>(vJ y).2) 199 (by decide)
  simp[a0,a1,a2,al,l2,x1.wf,turn,aV,r1,hu]
theorem KE(b:aL)(q tc td sc sd:Int)(p:eD)(g:zZ b) :
  pcF D t63 [aW .none b,.int .i64 q,.agg [.int .i64 1,.int .i64 tc,.int .i64 td,.int .i64 sc,.int .i64 sd,fG p,.isl false 0 []]]=some (.tup [aW .none (lS b q ⟨tc,td⟩ p).1,eL false 8 mZ (lS b q ⟨tc,td⟩ p).2,.isl false 0 []]):=by
 have h1:=OA b tc td q p g
 have hu2:∀os:List uZ,bA 199 (eL false 8 mZ os)=true:=fun os=>kP (fun y _=>(vJ y).2) 199 (by decide)
 unfold pcF
 rw[aM _ _ _ _ (by simp[t63])]
 simp[t63,e58,h1,turn,aV,hu2]
theorem KD(b:aL)(q tc td sc sd:Int)(p:eD)(g:zZ b) :
  pcF D t63 [aW .none b,.int .i64 q,.agg [.int .i64 2,.int .i64 tc,.int .i64 td,.int .i64 sc,.int .i64 sd,fG p,.isl false 0 []]]=some (.tup [aW .none (jS b q ⟨tc,td⟩).1,eL false 8 mZ (jS b q ⟨tc,td⟩).2,.isl false 0 []]):=by
 have h2:=NZ b tc td q g
 have hu2:∀os:List uZ,bA 199 (eL false 8 mZ os)=true:=fun os=>kP (fun y _=>(vJ y).2) 199 (by decide)
 unfold pcF
 rw[aM _ _ _ _ (by simp[t63])]
 simp[t63,e61,h2,turn,aV,hu2]
variable {h:aA} {nid bid q wid:Nat} {cr:DV} {m:Int} {L:List (Int×Int)} {B:List aL} {W:ID→List Msg} {X:List kI}
theorem Tm(h:aA):fP h .nsl=some (.nsl,h):=_root_.id rfl
def E1(pv:DV)(p:eD):Prop:=(pv=.nsl∧p=[])∨pv=eL false 5 wW p
theorem WG(b:aL)(xc xd:Int){pv:DV}{p:eD}(hv:E1 pv p)(g:zZ b)(h:aA)(i1 i2:Nat)(wf:WF h)(hl:h.lim≤h.n)(e1 e2:Nat)
  (g1:h.get i1=some (.arr e1 2 [.agg [.int .i64 xc,.int .i64 xd]] (some 1))) (g2:h.get i2=some (.arr e2 1 [pv] (some 1))) :
  ∃ H,fc D 57 [aW .none b,.ptr i1 2 0 0,.ptr i2 1 0 0] h=some (.tup [aW .none (lS b (-1) ⟨xc,xd⟩ p).1,eL false 8 mZ (lS b (-1) ⟨xc,xd⟩ p).2],H)∧Ext h.n h H:=by
 have hF:=OA b xc xd (-1) p g
 have l1:=aC g1
 have l2:=aC g2
 have m1:¬i1=h.n:=by omega
 have m2:¬i2=h.n:=by omega
 have m3:¬i1=h.n+1:=by omega
 have m4:¬i2=h.n+1:=by omega
 rw[e57,aM _ _ _ _ (by simp[t57])]
 simp only[fG]at hF
 have Dl:h.lim≤h.n+1:=by omega
 rcases hv with⟨rfl,rfl⟩|rfl
 ·rw[show eL false 5 wW ([]:eD)=DV.isl false 0 []from rfl]at hF
  simp[t57,g1,g2,m1,m2,m3,m4,e58,hF,hl,Dl,wf,turn,Tm,aV]
  exact((Ext.refl (Nat.le_refl _) wf).push).push
 ·simp[t57,g1,g2,m1,m2,m3,m4,e58,hF,hl,Dl,wf,turn,Tm,aV]
  exact((Ext.refl (Nat.le_refl _) wf).push).push
theorem WI(A:eG h nid bid q wid cr m L B W X)(wf:WF h)(hl:h.lim≤h.n)(k:Nat){b:aL}(hb:B[k]?=some b)(xc xd:Int){pv:DV}{p:eD}(hv:E1 pv p)(g:zZ b)
  (hw:(bH L).length≤1000000) (ho:∀o∈(lS b (-1) ⟨xc,xd⟩ p).2,((k:Int),o.to)∈bH L∧o.kind≠5) (eN:(lS b (-1) ⟨xc,xd⟩ p).2.length≤1000000) (hW:∀x,(W x).length+(lS b (-1) ⟨xc,xd⟩ p).2.length≤300000) :
  ∃ H,fc D 19 [.ptr nid 5 0 0,.int .i64 k,.agg [.int .i64 xc,.int .i64 xd],pv] h=some (.nili,H)∧eG H nid bid q wid cr m L (B.set k (lS b (-1) ⟨xc,xd⟩ p).1) (pO k W (lS b (-1) ⟨xc,xd⟩ p).2) X∧Upd h H [bid,q,wid] [bid,q,wid]:=by
 have st:aO 1 pv=true:=by rcases hv with⟨rfl,rfl⟩|rfl<;>simp
 have ec:aF 1 pv=[pv]:=by rcases hv with⟨rfl,rfl⟩|rfl<;>simp
 have x:Ext h.n h ((h.push (.arr 24 2 [.agg [.int .i64 xc,.int .i64 xd]] (some 1))).push (.arr 35 1 [pv] (some 1))):=((Ext.refl (Nat.le_refl _) wf).push).push
 obtain⟨h1,e1,x1⟩:=WG b xc xd hv g _ h.n (h.n+1) x.wf (by have:=x.lim;have:=x.le;simp;omega) 24 35 (by simp[wf]) (by simp[wf])
 obtain⟨H,e2,A2,U⟩:=q56 (A.ext x) x.wf (by have:=x.lim;simp;omega) k hb _ _ _ e1 x1 hw ho eN hW
 rw[e19,aM _ _ _ _ (by simp[t19])]
 simp[t19,st,ec,e2,turn,aV]
 exact⟨A2,(((Upd.refl wf _).push _).push _).trans U⟩
theorem WE(b:aL)(xc xd:Int)(g:zZ b)(h:aA)(i1:Nat)(wf:WF h)(hl:h.lim≤h.n)(e1:Nat)
  (g1:h.get i1=some (.arr e1 2 [.agg [.int .i64 xc,.int .i64 xd]] (some 1))) :
  ∃ H,fc D 60 [aW .none b,.ptr i1 2 0 0] h=some (.tup [aW .none (jS b (-1) ⟨xc,xd⟩).1,eL false 8 mZ (jS b (-1) ⟨xc,xd⟩).2],H)∧Ext h.n h H:=by
 have hF:=NZ b xc xd (-1) g
 have l1:=aC g1
 have m1:¬i1=h.n:=by omega
 have m3:¬i1=h.n+1:=by omega
 have Dl:h.lim≤h.n+1:=by omega
 rw[e60,aM _ _ _ _ (by simp[t60])]
 simp[t60,g1,m1,m3,e61,hF,hl,Dl,wf,turn,aV]
 exact((Ext.refl (Nat.le_refl _) wf).push).push
theorem WH(A:eG h nid bid q wid cr m L B W X)(wf:WF h)(hl:h.lim≤h.n)(k:Nat){b:aL}(hb:B[k]?=some b)(xc xd:Int)(g:zZ b)
  (hw:(bH L).length≤1000000) (ho:∀o∈(jS b (-1) ⟨xc,xd⟩).2,((k:Int),o.to)∈bH L∧o.kind≠5) (eN:(jS b (-1) ⟨xc,xd⟩).2.length≤1000000) (hW:∀x,(W x).length+(jS b (-1) ⟨xc,xd⟩).2.length≤300000) :
  ∃ H,fc D 21 [.ptr nid 5 0 0,.int .i64 k,.agg [.int .i64 xc,.int .i64 xd]] h=some (.nili,H)∧eG H nid bid q wid cr m L (B.set k (jS b (-1) ⟨xc,xd⟩).1) (pO k W (jS b (-1) ⟨xc,xd⟩).2) X∧Upd h H [bid,q,wid] [bid,q,wid]:=by
 have x:Ext h.n h (h.push (.arr 24 2 [.agg [.int .i64 xc,.int .i64 xd]] (some 1))):=(Ext.refl (Nat.le_refl _) wf).push
 obtain⟨h1,e1,x1⟩:=WE b xc xd g _ h.n x.wf (by have:=x.lim;have:=x.le;simp;omega) 24 (by simp[wf])
 obtain⟨H,e2,A2,U⟩:=q56 (A.ext x) x.wf (by have:=x.lim;simp;omega) k hb _ _ _ e1 x1 hw ho eN hW
 rw[e21,aM _ _ _ _ (by simp[t21])]
 simp[t21,e2,turn,aV]
 exact⟨A2,((Upd.refl wf _).push _).trans U⟩
end Go.Dm.Tc
/-
Networks,part 15: the parents of an advertisement.
-/
namespace Go.Dm.Tc
variable {h:aA} {nid bid q wid:Nat} {cr:DV} {m:Int} {L:List (Int×Int)} {B:List aL} {W:ID→List Msg} {X:List kI}
def wR(x:ID)(b:aL):Int:=match b.aX.find? (fun a=>a.id=x)with|some a=>a.eH|none=>-2
theorem l23(P:Res→Prop)(x:ID)(hB:(B.length:Int)=m)(hm:B.length≤1000)(hz:∀b∈B,zV b∧dP (b.aX.map (·.id)))(gid:Nat)(K0:aA)(A0:eG K0 nid bid q wid cr m L B W X)(MC:K0.lim≤K0.n)(gg0:K0.get gid=some (.arr 24 2 [.agg [.int .i64 x.bI,.int .i64 x.seq]] (some 1))) :
  ∀(k i:Nat) (f:dX) (K:aA) (v:DV),i+k=B.length→f 0=.ptr nid 5 0 0→f 3=.ptr gid 2 0 0→f 5=v→f 12=.int .i64 m→f 13=.int .i64 i→Ext K0.n K0 K→OwnR K0.n K v 3 1 (((B.take i).map (wR x)).map bF) →
  (∀F H v',F 5=v'→Ext K0.n K0 H→OwnR K0.n H v' 3 1 ((B.map (wR x)).map bF)→P (run D 33 [] H5 F H)) →
  P (run D 33 [.block 0,.seq H5] (.loop G9) f K):=by
 intro k
 induction k with
 | zero =>
  intro i f K v hi f0 f3 f5 f12 f13 xx ow dA
  have:¬((i:Int)<m):=by omega
  rw[aG G9.eq_1]
  simp[f12,f13,this]
  rw[List.take_of_length_le (by omega)]at ow
  exact dA _ _ v (by simp[f5]) xx ow
 | succ k ih =>
  intro i f K v hi f0 f3 f5 f12 f13 xx ow dA
  have A:=A0.ext xx
  have wf:=xx.wf
  have lK:=xx.lim
  have nK:=xx.le
  have hl:K.lim≤K.n:=by omega
  have gg:=(xx.get gid (aC gg0)).trans gg0
  have aZ:(i:Int)<m:=by omega
  have L7:IntKind.i64.wrap ((i:Int)+1)=(i:Int)+1:=bJ (by omega) (by omega)
  obtain⟨b,hb⟩:∃ b,B[i]?=some b:=⟨_,List.getElem?_eq_getElem (by omega)⟩
  obtain⟨z,ra⟩:=hz b (List.mem_of_getElem? hb)
  have IP:max K.n K.lim=K.n:=by omega
  obtain⟨v1,v2,v3,v4,v5,K1,e1,hh,x1⟩:=q67 (h:=wl K K.n) (nid:=nid) (bid:=bid) (q:=q) (cr:=cr) (m:=m) (L:=L) (B:=B) ⟨A.gn,A.gb⟩ wf (Nat.le_refl _) i hb z
  have gg1:=(x1.get gid (aC gg)).trans gg
  have xl:=x1.lim
  have xn:=x1.le
  simp at xl xn
  rw[aG G9.eq_1]
  have cD:K.lim≤K.n:=hl
  have Ob:K.lim≤K0.n:=by omega
  have q1:resolve true (wl K1 K.lim) 199 v1=_:=(hh.r1.wl0 cD).resolve (n:=199) true (fun y _=>(dD y).1) (by decide)
  have q2:resolve true (wl K1 K.lim) 199 v2=_:=(hh.r2.wl0 cD).resolve (n:=199) true (fun y _=>(fJ y).1) (by decide)
  have q3:resolve true (wl K1 K.lim) 199 v3=_:=(hh.r3.wl0 cD).resolve (n:=199) true (fun y _=>(jN y).1) (by decide)
  have q4:resolve true (wl K1 K.lim) 199 v4=_:=(hh.r4.wl0 cD).resolve (n:=199) true (fun y _=>(fL y).1) (by decide)
  have q5:resolve true (wl K1 K.lim) 199 v5=_:=(hh.r5.wl0 cD).resolve (n:=199) true (fun y _=>(iY y).1) (by decide)
  have hF:pcF D t66 [.agg [.int .i64 b.me,eL true 1 bF b.bC,eL true 4 aH b.aX,eL true 2 eID b.seen,eL true 7 bQ b.entries,eL true 3 oY b.kC],.agg [.int .i64 x.bI,.int .i64 x.seq]]=some (.tup [aH ((b.aX.find? fun a=>a.id=x).getD vZ),.bool (Z2 (b.aX.find? fun a=>a.id=x))]) :=
   s66 (.int .i64 b.me) (eL true 1 bF b.bC) (eL true 2 eID b.seen) (eL true 7 bQ b.entries) (eL true 3 oY b.kC) true b.aX x.bI x.seq ra (by have:=z.adv;omega) ((iA _ _).mono (by decide)) ((eF _ _ _ _).mono (by decide)) ((eF _ _ _ _).mono (by decide)) ((eF _ _ _ _).mono (by decide)) ((eF _ _ _ _).mono (by decide))
  have wf1:WF K1:=x1.wf
  have xK:Ext K.n K (wl K1 K.lim):=⟨x1.le,rfl,fun id eE=>x1.get id eE,wf1⟩
  have Tb:K.lim≤K1.n:=by omega
  have A1:=(A.ext xK)
  have bY:(B.take i).length=i:=by rw[List.length_take];omega
  have SM:(B.take (i+1)).map (wR x)=(B.take i).map (wR x)++[wR x b]:=by
   rw[List.take_succ,hb];simp
  have Ft:∀o,b.aX.find? (fun a=>a.id=x)=o→wR x b=(match o with|some a=>a.eH|none=>-2):=fun o e=>by rw[←e];rfl
  generalize b.aX.find? (fun a=>a.id=x)=o at hF Ft
  have Ft:=Ft o rfl
  cases o with
  | none =>
   simp only[Z2]at hF
   simp only at Ft
   simp[f0,f3,f5,f12,f13,aZ,IP,e1,gg,gg1,turn,e66,q1,q2,q3,q4,q5,hF,xl,vZ,aH,wf1,Tb]
   generalize hA:bB _ _ _ _ _ _=A
   obtain⟨v',H,rfl,Ab,oJ,_⟩:=OwnR.append (((ow.ext xK).push).push) xK.wf.push.push (by simp;omega) (by simp;omega) hA (by simp;omega) (by decide)
   clear hA
   have xH:Ext K0.n K0 H:=xx.trans (((xK.push.push).lower nK).trans oJ)
   simp[f13,L7]
   generalize hF':upd _ 13 _=F
   refine ih (i+1) F H v' (by omega) (by rw[←hF'];simp[f0]) (by rw[←hF'];simp[f3]) (by rw[←hF'];simp) (by rw[←hF'];simp[f12]) (by rw[←hF'];simp) xH ?_ dA
   rw[SM,List.map_append,Ft]
   simpa[bF]using Ab
  | some a =>
   simp only[Z2]at hF
   simp only at Ft
   simp[f0,f3,f5,f12,f13,aZ,IP,e1,gg,gg1,turn,e66,q1,q2,q3,q4,q5,hF,xl,aH,wf1,Tb]
   generalize hA:bB _ _ _ _ _ _=A
   obtain⟨v',H,rfl,Ab,oJ,_⟩:=OwnR.append (((ow.ext xK).push).push) xK.wf.push.push (by simp;omega) (by simp;omega) hA (by simp;omega) (by decide)
   clear hA
   have xH:Ext K0.n K0 H:=xx.trans (((xK.push.push).lower nK).trans oJ)
   simp[f13,L7]
   generalize hF':upd _ 13 _=F
   refine ih (i+1) F H v' (by omega) (by rw[←hF'];simp[f0]) (by rw[←hF'];simp[f3]) (by rw[←hF'];simp) (by rw[←hF'];simp[f12]) (by rw[←hF'];simp) xH ?_ dA
   rw[SM,List.map_append,Ft]
   simpa[bF]using Ab
theorem q23(x:ID)(hB:(B.length:Int)=m)(hm:B.length≤1000)(hz:∀b∈B,zV b∧dP (b.aX.map (·.id)))(A:eG h nid bid q wid cr m L B W X)(wf:WF h)(hl:h.lim≤h.n)(hL:L.length≤1000000) :
  ∃ v H,fc D 23 [.ptr nid 5 0 0,.agg [.int .i64 x.bI,.int .i64 x.seq]] h=some (v,H)∧OwnR h.n H v 3 1 ((B.map (wR x)).map bF)∧Ext h.n h H:=by
 have xp:Ext h.n h (h.push (.arr 24 2 [.agg [.int .i64 x.bI,.int .i64 x.seq]] (some 1))):=(Ext.refl (Nat.le_refl _) wf).push
 obtain⟨H1,e1,x1⟩:=q65 (A.ext xp) xp.wf (by simp;omega) hL
 have xH:=xp.trans (x1.lower (by simp))
 rw[e23,aM _ _ _ _ (by simp[t23])]
 simp[t23,e1,-List.map_map]
 generalize hF:upd _ 13 _=F
 refine l23 (fun r=>∃ v H,fin [.t 4] r=some (v,H)∧OwnR h.n H v 3 1 ((B.map (wR x)).map bF)∧Ext h.n h H) x hB hm hz h.n H1 (A.ext xH) (by rw[xH.lim];have:=xH.le;omega) ((x1.get h.n (by simp)).trans (by simp)) B.length 0 F H1 .nsl (by omega) (by rw[←hF];simp) (by rw[←hF];simp) (by rw[←hF];simp) (by rw[←hF];simp) (by rw[←hF];simp) (Ext.refl (Nat.le_refl _) xH.wf) (.nil rfl rfl) fun F' H' v' k1 k2 k3=>?_
 exact⟨v',H',by simp[H5,k1],k3.lower xH.le,xH.trans (k2.lower xH.le)⟩
end Go.Dm.Tc
/-
Floods,plain: what waits and what is known while one advertisement spreads and is taken back.
-/
namespace Go.Dm.Tc
inductive FS where
 | fresh
 | has (q:Int)
 | gone (q:Int)
 deriving DecidableEq
def FS.sent:FS→Int→List Bool
 | .fresh,_=>[]
 | .has q,v=>if v=q then[]else[true]
 | .gone q,v=>if v=q then[]else[true,false]
structure FlI(m:Int)(L:List (Int×Int))(r:Int)(s:Int→FS)(W:Int→Int→List Bool)(con:Int→Int→Nat)(d:Int→Nat):Prop where
 root:s r=.has (-1)∨s r=.gone (-1)
 rng:∀v,s v≠.fresh→0≤v∧v<m
 par:∀v q,(s v=.has q∨s v=.gone q)→(q=-1∧v=r)∨(cJ m L q v=true∧s q≠.fresh∧d q<d v)
 now:∀v q,s v=.has q→q≠-1→con q v=1
 wt:∀u v,W u v=if cJ m L u v=true then((s u).sent v).drop (con u v)else[]
 cl:∀u v,con u v≤if cJ m L u v=true then((s u).sent v).length else 0
 got:∀u v,1≤con u v→s v≠.fresh
def eM(s:Int→FS)(v:Int)(x:FS):Int→FS:=fun y=>if y=v then x else s y
def lL(con:Int→Int→Nat)(u v:Int):Int→Int→Nat:=fun a b=>if a=u∧b=v then con a b+1 else con a b
def XP(m:Int)(L:List (Int×Int))(W W':Int→Int→List Bool)(u v:Int)(rest:List Bool)(tell:Int→List Bool):Prop :=
 ∀a b,W' a b=(if a=u∧b=v then rest else W a b)++(if a=v∧cJ m L v b=true∧b≠u then tell b else[])
variable {m:Int} {L:List (Int×Int)} {r:Int} {s:Int→FS} {W W':Int→Int→List Bool} {con:Int→Int→Nat} {d:Int→Nat}
theorem Tk{a b:Int}(h:cJ m L a b=true):a≠b:=(dZ h).2.2
theorem FlI.start(hr:0≤r∧r<m):FlI m L r (eM (fun _=>.fresh) r (.has (-1))) (fun u v=>if u=r∧cJ m L r v=true then[true]else[]) (fun _ _=>0) (fun _=>0):=by
 refine⟨.inl (by simp[eM]),fun v h=>?_,fun v q h=>?_,fun v q h hq=>?_,fun u v=>?_,fun u v=>Nat.zero_le _,fun u v h=>absurd h (by decide)⟩
 ·by_cases e:v=r
  ·rw[e];exact hr
  ·simp[eM,e]at h
 ·by_cases e:v=r
  ·simp[eM,e]at h;exact .inl ⟨h.symm,e⟩
  ·simp[eM,e]at h
 ·by_cases e:v=r
  ·simp[eM,e]at h;exact absurd h.symm hq
  ·simp[eM,e]at h
 ·by_cases e:u=r
  ·subst e
   by_cases hl:cJ m L u v=true
   ·have:=(dZ hl).2.1
    have hv:¬v=-1:=by omega
    simp[eM,hl,FS.sent,hv]
   ·simp[hl]
  ·simp[eM,e,FS.sent]
theorem FlI.head(I:FlI m L r s W con d){u v:Int}{k:Bool}{rest:List Bool}(h:W u v=k::rest) :
  cJ m L u v=true∧rest=((s u).sent v).drop (con u v+1)∧((k=true∧con u v=0∧s u≠.fresh)∨(k=false∧con u v=1∧rest=[]∧∃ q,s u=.gone q∧v≠q)):=by
 have hw:=I.wt u v
 rw[h]at hw
 split at hw
 ·rename_i hl
  have hd:rest=((s u).sent v).drop (con u v+1):=by
   rw[←List.drop_drop,←hw];rfl
  refine⟨hl,hd,?_⟩
  cases hs:s u with
  | fresh=>rw[hs]at hw;simp[FS.sent]at hw
  | has q =>
   rw[hs]at hw
   by_cases hv:v=q
   ·simp[FS.sent,hv]at hw
   ·simp only[FS.sent,if_neg hv]at hw
    have hc:con u v=0:=by
     rcases Nat.eq_zero_or_pos (con u v)with h0|h0
     ·exact h0
     ·obtain⟨j,hj⟩:∃ j,con u v=j+1:=⟨con u v-1,by omega⟩
      rw[hj]at hw;simp at hw
    rw[hc]at hw
    simp only[List.drop_zero,List.cons.injEq]at hw
    exact .inl ⟨hw.1,hc,by simp⟩
  | gone q =>
   rw[hs]at hw
   by_cases hv:v=q
   ·simp[FS.sent,hv]at hw
   ·simp only[FS.sent,if_neg hv]at hw
    rcases Nat.eq_zero_or_pos (con u v)with h0|h0
    ·rw[h0]at hw
     simp only[List.drop_zero,List.cons.injEq]at hw
     exact .inl ⟨hw.1,h0,by simp⟩
    ·obtain⟨j,hj⟩:∃ j,con u v=j+1:=⟨con u v-1,by omega⟩
     rw[hj]at hw
     rcases Nat.eq_zero_or_pos j with h1|h1
     ·subst h1
      simp at hw
      exact .inr ⟨hw.1,by omega,hw.2,q,rfl,hv⟩
     ·obtain⟨i,hi⟩:∃ i,j=i+1:=⟨j-1,by omega⟩
      subst hi;simp at hw
 ·cases hw
theorem FlI.up(I:FlI m L r s W con d){v q:Int}(h:s v=.has q∨s v=.gone q):s q≠.has v∧s q≠.gone v:=by
 have key:¬(s q=.has v∨s q=.gone v):=fun h2=>by
  rcases I.par v q h with⟨e1,e2⟩|⟨l1,_,d1⟩
  ·have:=I.rng q (by rcases h2 with h2|h2<;>rw[h2]<;>simp)
   omega
  ·rcases I.par q v h2 with⟨e1,e2⟩|⟨_,_,d2⟩
   ·have:=(dZ l1).2.1;omega
   ·omega
 exact⟨fun e=>key (.inl e),fun e=>key (.inr e)⟩
theorem FlI.skip(I:FlI m L r s W con d){u v:Int}{k:Bool}{rest:List Bool}(h:W u v=k::rest)(h1:k=true→s v≠.fresh)(h2:k=false→s v≠.has u)
  (hW:∀a b,W' a b=if a=u∧b=v then rest else W a b):FlI m L r s W' (lL con u v) d:=by
 obtain⟨hl,hd,hc⟩:=I.head h
 refine⟨I.root,I.rng,I.par,fun w q hs hq=>?_,fun a b=>?_,fun a b=>?_,fun a b hb=>?_⟩
 ·by_cases e:q=u∧w=v
  ·obtain⟨rfl,rfl⟩:=e
   have:=I.now w q hs hq
   rcases hc with⟨_,h0,_⟩|⟨hk,_⟩
   ·omega
   ·exact absurd hs (h2 hk)
  ·simp only[lL,if_neg e];exact I.now w q hs hq
 ·rw[hW]
  by_cases e:a=u∧b=v
  ·obtain⟨rfl,rfl⟩:=e
   simp[lL,hl,hd]
  ·simp only[lL,if_neg e];exact I.wt a b
 ·by_cases e:a=u∧b=v
  ·obtain⟨rfl,rfl⟩:=e
   have hw:=I.wt a b
   rw[h,if_pos hl]at hw
   have:=congrArg List.length hw
   simp[List.length_drop]at this
   simp[lL,hl]
   omega
  ·simp only[lL,if_neg e];exact I.cl a b
 ·by_cases e:a=u∧b=v
  ·obtain⟨rfl,rfl⟩:=e
   rcases hc with⟨hk,_,_⟩|⟨_,SV,_⟩
   ·exact h1 hk
   ·exact I.got a b (by omega)
  ·simp only[lL,if_neg e]at hb;exact I.got a b hb
theorem FlI.learn(I:FlI m L r s W con d){u v:Int}{rest:List Bool}(h:W u v=true::rest)(hf:s v=.fresh)
  (hW:XP m L W W' u v rest (fun _=>[true])):FlI m L r (eM s v (.has u)) W' (lL con u v) (fun y=>if y=v then d u+1 else d y):=by
 obtain⟨hl,hd,hc⟩:=I.head h
 have hc0:con u v=0∧s u≠.fresh:=by
  rcases hc with⟨_,h0,h1⟩|⟨hk,_⟩
  ·exact⟨h0,h1⟩
  ·cases hk
 have huv:=Tk hl
 have LU:r≠v:=by
  rintro rfl
  rcases I.root with e|e<;>(rw[e]at hf;cases hf)
 have cQ:∀q,s q≠.fresh→q≠v:=fun q hq e=>hq (e ▸ hf)
 refine⟨?_,fun w hw=>?_,fun w q hs=>?_,fun w q hs hq=>?_,fun a b=>?_,fun a b=>?_,fun a b hb=>?_⟩
 ·simp only[eM,if_neg LU];exact I.root
 ·by_cases e:w=v
  ·rw[e];exact(dZ hl).2.1
  ·simp only[eM,if_neg e]at hw;exact I.rng w hw
 ·by_cases e:w=v
  ·subst e
   have hq:q=u:=by simpa[eM,eq_comm]using hs
   subst hq
   exact .inr ⟨hl,by simp only[eM,if_neg huv];exact hc0.2,by simp[huv]⟩
  ·simp only[eM,if_neg e]at hs
   rcases I.par w q hs with h1|⟨h1,h2,h3⟩
   ·exact .inl h1
   ·have:=cQ q h2
    exact .inr ⟨h1,by simp only[eM,if_neg this];exact h2,by simp[this,e,h3]⟩
 ·by_cases e:w=v
  ·subst e
   have Aa:q=u:=by simpa[eM,eq_comm]using hs
   subst Aa
   simp[lL,hc0.1]
  ·simp only[eM,if_neg e]at hs
   have:¬(q=u∧w=v):=fun x=>e x.2
   simp only[lL,if_neg this];exact I.now w q hs hq
 ·rw[hW]
  by_cases e:a=v
  ·subst e
   have n1:¬(a=u∧b=a):=fun x=>huv x.1.symm
   have hw:=I.wt a b
   have vS:=I.cl a b
   rw[hf]at hw vS
   have hw0:W a b=[]:=by rw[hw];simp[FS.sent]
   have hcl0:con a b=0:=by
    by_cases hx:cJ m L a b=true<;>simpa[hx,FS.sent]using vS
   simp only[if_neg n1,hw0,lL,hcl0,eM,if_true,List.drop_zero,List.nil_append,FS.sent,true_and]
   by_cases hx:cJ m L a b=true<;>by_cases hy:b=u<;>simp[hx,hy]
  ·have n1:¬(a=v∧cJ m L v b=true∧b≠u):=fun x=>e x.1
   rw[if_neg n1,List.append_nil]
   simp only[eM,if_neg e]
   by_cases e2:a=u∧b=v
   ·obtain⟨rfl,rfl⟩:=e2
    simp[lL,hl,hd]
   ·simp only[lL,if_neg e2];exact I.wt a b
 ·by_cases e:a=v
  ·subst e
   have n1:¬(a=u∧b=a):=fun x=>huv x.1.symm
   have vS:=I.cl a b
   rw[hf]at vS
   have hcl0:con a b=0:=by
    by_cases hx:cJ m L a b=true<;>simpa[hx,FS.sent]using vS
   simp[lL,n1,hcl0]
  ·simp only[eM,if_neg e]
   by_cases e2:a=u∧b=v
   ·obtain⟨rfl,rfl⟩:=e2
    have hw:=I.wt a b
    rw[h,if_pos hl]at hw
    have:=congrArg List.length hw
    simp[List.length_drop]at this
    simp[lL,hl]
    omega
   ·simp only[lL,if_neg e2];exact I.cl a b
 ·by_cases e:b=v
  ·simp[eM,e]
  ·have n1:¬(a=u∧b=v):=fun x=>e x.2
   simp only[lL,if_neg n1]at hb
   simp only[eM,if_neg e];exact I.got a b hb
theorem FlI.off(I:FlI m L r s W con d){v q:Int}{con':Int→Int→Nat}(hs:s v=.has q)
  (hc:∀a b,con' a b=if a=q∧b=v∧q≠-1 then con a b+1 else con a b) (hg:q≠-1→W q v=[false])
  (hW:∀a b,W' a b=(if a=q∧b=v∧q≠-1 then[]else W a b)++(if a=v∧cJ m L v b=true∧b≠q then[false]else[])) :
  FlI m L r (eM s v (.gone q)) W' con' d:=by
 have hvq:v≠q:=fun e=>by
  rcases I.par v q (.inl hs)with⟨h1,h2⟩|⟨h1,_,_⟩
  ·have:=I.rng v (by rw[hs];simp);omega
  ·exact Tk h1 e.symm
 have hh:q≠-1→cJ m L q v=true∧con q v=1∧[]=((s q).sent v).drop (con q v+1):=fun hq=>by
  obtain⟨h1,h2,h3⟩:=I.head (hg hq)
  rcases h3 with⟨hk,_⟩|⟨_,h4,_⟩
  ·cases hk
  ·exact⟨h1,h4,h2⟩
 refine⟨?_,fun w hw=>?_,fun w p hp=>?_,fun w p hp hq=>?_,fun a b=>?_,fun a b=>?_,fun a b hb=>?_⟩
 ·by_cases e:r=v
  ·subst e
   rcases I.root with h1|h1
   ·rw[hs]at h1;cases h1;simp[eM]
   ·rw[hs]at h1;cases h1
  ·simp only[eM,if_neg e];exact I.root
 ·by_cases e:w=v
  ·rw[e];exact I.rng v (by rw[hs];simp)
  ·simp only[eM,if_neg e]at hw;exact I.rng w hw
 ·have LX:s w=.has p∨s w=.gone p:=by
   by_cases e:w=v
   ·subst e
    have:p=q:=by simpa[eM,eq_comm]using hp
    rw[this];exact .inl hs
   ·simpa only[eM,if_neg e]using hp
  rcases I.par w p LX with h1|⟨h1,h2,h3⟩
  ·exact .inl h1
  ·refine .inr ⟨h1,?_,h3⟩
   by_cases e:p=v
   ·simp[eM,e]
   ·simp only[eM,if_neg e];exact h2
 ·have e:w≠v:=fun e=>by simp[eM,e]at hp
  simp only[eM,if_neg e]at hp
  have n1:¬(p=q∧w=v∧q≠-1):=fun x=>e x.2.1
  rw[hc,if_neg n1];exact I.now w p hp hq
 ·rw[hW,hc]
  by_cases e:a=v
  ·subst e
   have n1:¬(a=q∧b=a∧q≠-1):=fun x=>hvq x.1
   have hw:=I.wt a b
   have vS:=I.cl a b
   rw[hs]at hw vS
   simp only[if_neg n1,eM,if_true,true_and,FS.sent]at hw vS ⊢
   by_cases hx:cJ m L a b=true
   ·by_cases hy:b=q
    ·simp[hx,hy]at hw ⊢;simp[hw]
    ·simp only[hx,hy,if_true,if_false,List.length_singleton]at hw vS
     rw[hw]
     simp only[hx,hy,if_true,if_false,ne_eq,not_false_eq_true,and_self]
     have:con a b=0∨con a b=1:=by omega
     rcases this with h0|h0<;>simp[h0]
   ·simp[hx]at hw ⊢;exact hw
  ·have n1:¬(a=v∧cJ m L v b=true∧b≠q):=fun x=>e x.1
   rw[if_neg n1,List.append_nil]
   simp only[eM,if_neg e]
   by_cases e2:a=q∧b=v∧q≠-1
   ·rw[if_pos e2,if_pos e2]
    obtain⟨rfl,rfl,hq⟩:=e2
    obtain⟨h1,h2,h3⟩:=hh hq
    rw[if_pos h1];exact h3
   ·rw[if_neg e2,if_neg e2];exact I.wt a b
 ·rw[hc]
  by_cases e:a=v
  ·subst e
   have n1:¬(a=q∧b=a∧q≠-1):=fun x=>hvq x.1
   have vS:=I.cl a b
   rw[hs]at vS
   simp only[if_neg n1,eM,if_true,FS.sent]at vS ⊢
   by_cases hx:cJ m L a b=true
   ·by_cases hy:b=q
    ·simpa[hx,hy]using vS
    ·simp[hx,hy]at vS ⊢;omega
   ·simpa[hx]using vS
  ·simp only[eM,if_neg e]
   by_cases e2:a=q∧b=v∧q≠-1
   ·rw[if_pos e2]
    obtain⟨rfl,rfl,hq⟩:=e2
    obtain⟨h1,h2,h3⟩:=hh hq
    have hw:=I.wt a b
    rw[hg hq,if_pos h1]at hw
    have:=congrArg List.length hw
    simp[List.length_drop]at this
    rw[if_pos h1];omega
   ·rw[if_neg e2];exact I.cl a b
 ·have Db:1≤con a b∨b=v:=by
   rw[hc]at hb
   by_cases e2:a=q∧b=v∧q≠-1
   ·exact .inr e2.2.1
   ·rw[if_neg e2]at hb;exact .inl hb
  by_cases e:b=v
  ·simp[eM,e]
  ·simp only[eM,if_neg e]
   exact I.got a b (Db.resolve_right e)
def Hg(m:Int)(L:List (Int×Int)):Prop:=∀b:Nat,1≤b→(b:Int)<m→∃ u:Nat,u<b∧cJ m L u b=true
theorem HX(hc:Hg m L){P:Int→Prop}(hp:∀a b,cJ m L a b=true→P a→P b)(hr:0≤r∧r<m)(h:P r):∀v,0≤v→v<m→P v:=by
 have key:∀b:Nat,(b:Int)<m→(P b↔P 0):=by
  intro b
  induction b using Nat.strongRecOn with
  | _ b ih =>
   intro hb
   rcases Nat.eq_zero_or_pos b with e|e
   ·subst e;exact Iff.rfl
   ·obtain⟨u,hu,hl⟩:=hc b e hb
    have:=ih u hu (by omega)
    rw[←this]
    exact⟨fun h=>hp _ _ (by rw[xL];exact hl) h,fun h=>hp _ _ hl h⟩
 intro v h0 h1
 have e1:((r.toNat:Nat):Int)=r:=by omega
 have e2:((v.toNat:Nat):Int)=v:=by omega
 have k1:=key r.toNat (by omega)
 have k2:=key v.toNat (by omega)
 rw[e1]at k1
 rw[e2]at k2
 exact k2.2 (k1.1 h)
theorem Th{m:Int}(under more:List Int):Hg m (sJ m under more):=fun b h1 h2=>by
 obtain⟨u,hu,hl⟩:=Dw (m:=m) under (m-1).toNat (by omega) b h1 (by omega)
 exact⟨u,hu,Bc (At m _ _) hl⟩
theorem FlI.full(I:FlI m L r s W con d)(hq:∀u v,W u v=[]){u v:Int}(hl:cJ m L u v=true):con u v=((s u).sent v).length:=by
 have h1:=I.wt u v
 have h2:=I.cl u v
 rw[hq,if_pos hl]at h1
 rw[if_pos hl]at h2
 have:=List.drop_eq_nil_iff.1 h1.symm
 omega
theorem FlI.all(I:FlI m L r s W con d)(hq:∀u v,W u v=[])(hc:Hg m L):∀v,0≤v→v<m→s v≠.fresh:=by
 have hrf:s r≠.fresh:=by rcases I.root with e|e<;>rw[e]<;>simp
 refine HX hc (P:=fun v=>s v≠.fresh) (fun a b hl ha=>?_) (I.rng r hrf) hrf
 have hf:=I.full hq hl
 cases hs:s a with
 | fresh=>exact absurd hs ha
 | has q =>
  by_cases e:b=q
  ·subst e
   rcases I.par a b (.inl hs)with⟨h1,_⟩|⟨_,h2,_⟩
   ·have:=(dZ hl).2.1;omega
   ·exact h2
  ·rw[hs]at hf
   simp only[FS.sent,if_neg e,List.length_singleton]at hf
   exact I.got a b (by omega)
 | gone q =>
  by_cases e:b=q
  ·subst e
   rcases I.par a b (.inr hs)with⟨h1,_⟩|⟨_,h2,_⟩
   ·have:=(dZ hl).2.1;omega
   ·exact h2
  ·rw[hs]at hf
   simp only[FS.sent,if_neg e,List.length_cons,List.length_nil]at hf
   exact I.got a b (by omega)
theorem FlI.live(I:FlI m L r s W con d)(hq:∀u v,W u v=[]):∀(n:Nat) (v q:Int),d v≤n→s v=.has q→s r=.has (-1):=by
 intro n
 induction n with
 | zero =>
  intro v q hd hs
  rcases I.par v q (.inl hs)with⟨h1,h2⟩|⟨_,_,h3⟩
  ·rw[←h2,hs,h1]
  ·omega
 | succ n ih =>
  intro v q hd hs
  rcases I.par v q (.inl hs)with⟨h1,h2⟩|⟨h1,h2,h3⟩
  ·rw[←h2,hs,h1]
  ·have cQ:q≠-1:=by have:=(dZ h1).1;omega
   have hf:=I.full hq h1
   rw[I.now v q hs cQ]at hf
   cases hp:s q with
   | fresh=>exact absurd hp h2
   | has p=>exact ih q p (by omega) hp
   | gone p =>
    rw[hp]at hf
    by_cases e:v=p<;>simp[FS.sent,e]at hf
theorem FlI.ended(I:FlI m L r s W con d)(hq:∀u v,W u v=[])(hr:s r=.gone (-1))(v q:Int):s v≠.has q:=fun h=>by
 have:=I.live hq (d v) v q (Nat.le_refl _) h
 rw[hr]at this;cases this
def tH(ways:List (Int×Int))(con:Int→Int→Nat):Nat:=(ways.map fun w=>con w.1 w.2).sum
theorem DF{ways:List (Int×Int)}{c c':Int→Int→Nat}(h:∀w∈ways,c w.1 w.2=c' w.1 w.2):tH ways c=tH ways c':=by
 unfold tH;rw[List.map_congr_left h]
theorem Jj{u v:Int}:∀{ways:List (Int×Int)},ways.Nodup→(u,v)∈ways→tH ways (lL con u v)=tH ways con+1
 | [],_,h=>by cases h
 | w::t,hn,h=>by
  obtain⟨h1,h2⟩:=List.nodup_cons.1 hn
  by_cases e:w=(u,v)
  ·subst e
   have:tH t (lL con u v)=tH t con:=DF fun x hx=>by
    have:¬(x.1=u∧x.2=v):=fun e=>h1 (by obtain⟨a,b⟩:=x;simp only at e;rw[←e.1,←e.2];exact hx)
    simp only[lL,if_neg this]
   simp only[tH,List.map_cons,List.sum_cons]at this ⊢
   rw[this]
   simp[lL];omega
  ·have ht:(u,v)∈t:=(List.mem_cons.1 h).resolve_left fun e'=>e e'.symm
   have ih:=Jj h2 ht
   have:¬(w.1=u∧w.2=v):=fun e'=>e (by obtain⟨a,b⟩:=w;simp only at e';rw[e'.1,e'.2])
   simp only[tH,List.map_cons,List.sum_cons]at ih ⊢
   rw[ih]
   simp only[lL,if_neg this];omega
theorem Lx{k:Nat}:∀{ways:List (Int×Int)},(∀w∈ways,con w.1 w.2≤k)→tH ways con≤k*ways.length
 | [],_=>by simp[tH]
 | w::t,h=>by
  have ih:=Lx (ways:=t) fun x hx=>h x (List.mem_cons_of_mem _ hx)
  have:=h w (List.mem_cons_self ..)
  simp only[tH,List.map_cons,List.sum_cons,List.length_cons]at ih ⊢
  rw[Nat.mul_succ];omega
theorem FlI.con_le(I:FlI m L r s W con d)(u v:Int):con u v≤2:=by
 have:=I.cl u v
 refine Nat.le_trans this ?_
 split
 ·cases s u with
  | fresh=>simp[FS.sent]
  | has q=>by_cases e:v=q<;>simp[FS.sent,e]
  | gone q=>by_cases e:v=q<;>simp[FS.sent,e]
 ·decide
end Go.Dm.Tc
/-
Floods,plain: how much has come in the end;the parents are a tree.
-/
namespace Go.Dm.Tc
variable {m:Int} {L:List (Int×Int)} {r:Int} {s:Int→FS} {W W':Int→Int→List Bool} {con:Int→Int→Nat} {d:Int→Nat}
def NG(s:Int→FS):Prop:=∀v q,s v≠.gone q
theorem NG.start(r:Int):NG (eM (fun _=>.fresh) r (.has (-1))):=fun v q=>by
 by_cases e:v=r<;>simp[eM,e]
theorem NG.learn(h:NG s)(v u:Int):NG (eM s v (.has u)):=fun w q=>by
 by_cases e:w=v
 ·simp[eM,e]
 ·simp only[eM,if_neg e];exact h w q
theorem FlI.only(I:FlI m L r s W con d)(h:NG s){u v:Int}{k:Bool}{rest:List Bool}(hw:W u v=k::rest):k=true∧rest=[]:=by
 obtain⟨hl,hd,hc⟩:=I.head hw
 rcases hc with⟨h1,h2,h3⟩|⟨_,_,_,q,h4,_⟩
 ·refine⟨h1,?_⟩
  rw[hd]
  cases hs:s u with
  | fresh=>rfl
  | has q=>by_cases e:v=q<;>simp[FS.sent,e]
  | gone q=>exact absurd hs (h u q)
 ·exact absurd h4 (h u q)
theorem FlI.rootHas(I:FlI m L r s W con d)(h:NG s):s r=.has (-1):=I.root.resolve_right (h r (-1))
def wE(s:Int→FS)(v:Int):Int:=match s v with|.has q=>q|_=>-2
theorem FlI.allHas(I:FlI m L r s W con d)(h:NG s)(hq:∀u v,W u v=[])(hc:Hg m L){v:Int}(h0:0≤v)(h1:v<m):s v=.has (wE s v):=by
 have:=I.all hq hc v h0 h1
 unfold wE
 cases hs:s v with
 | fresh=>exact absurd hs this
 | has q=>rfl
 | gone q=>exact absurd hs (h v q)
def fH(m:Int):List Int:=(List.range m.toNat).map fun i:Nat=>(i:Int)
theorem Fl{m v:Int}:v∈fH m↔0≤v∧v<m:=by
 unfold fH
 rw[List.mem_map]
 constructor
 ·rintro⟨i,hi,rfl⟩
  rw[List.mem_range]at hi
  omega
 ·rintro⟨h0,h1⟩
  exact⟨v.toNat,by rw[List.mem_range];omega,by omega⟩
theorem T9(m:Int):(fH m).Nodup:=by
 unfold fH
 exact List.Pairwise.map _ (fun a b h e=>h (by omega)) List.nodup_range
theorem rX(m:Int):(fH m).length=m.toNat:=by simp[fH]
theorem Pr{u v:Int}(ok:bP m L):(u,v)∈bH L↔cJ m L u v=true:=by
 rw[Yt]
 constructor
 ·intro h
  unfold cJ
  rw[List.any_eq_true]
  rcases h with h|h
  ·have:=ok.rng _ h
   exact⟨(u,v),h,by simp[xJ];simp at this;omega⟩
  ·have:=ok.rng _ h
   exact⟨(v,u),h,by simp[xJ];simp at this;omega⟩
 ·intro h
  unfold cJ at h
  rw[List.any_eq_true]at h
  obtain⟨⟨a,b⟩,h1,h2⟩:=h
  simp at h2
  rcases h2.2 with⟨e1,e2⟩|⟨e1,e2⟩
  ·subst e1;subst e2;exact .inl h1
  ·subst e1;subst e2;exact .inr h1
structure zU(m:Int)(L:List (Int×Int))(r:Int)(p:List Int)(d:Int→Nat):Prop where
 len:(p.length:Int)=m
 rt:0≤r∧r<m
 at_:∀v,0≤v→v<m→(atL p v.toNat=-1∧v=r)∨(cJ m L (atL p v.toNat) v=true∧d (atL p v.toNat)<d v∧v≠r)
theorem NL(f:Nat→Int){n i:Nat}(h:i<n):atL ((List.range n).map f) i=f i:=by
 rw[jJ (by simpa using h)]
 simp
theorem FlI.tree(I:FlI m L r s W con d)(h:NG s)(hq:∀u v,W u v=[])(hc:Hg m L)(hr:0≤r∧r<m):zU m L r ((fH m).map (wE s)) d:=by
 refine⟨by simp[rX];omega,hr,fun v h0 h1=>?_⟩
 have e:atL ((fH m).map (wE s)) v.toNat=wE s v:=by
  unfold fH
  rw[List.map_map,NL _ (by omega)]
  have:((v.toNat:Nat):Int)=v:=by omega
  simp only[Function.comp_apply,this]
 rw[e]
 have hh:=I.allHas h hq hc h0 h1
 by_cases hv:v=r
 ·subst hv
  rcases I.par v _ (.inl hh)with⟨e1,_⟩|⟨e1,_,_⟩
  ·exact .inl ⟨e1,rfl⟩
  ·have:=I.rootHas h
   rw[hh]at this
   have e2:wE s v=-1:=by injection this
   have:=(dZ e1).1
   omega
 ·rcases I.par v _ (.inl hh)with⟨_,e1⟩|⟨e1,_,e3⟩
  ·exact absurd e1 hv
  ·exact .inr ⟨e1,e3,hv⟩
namespace zU
variable {p:List Int}
theorem path(T:zU m L r p d):∀(n:Nat) (v:Int),d v≤n→0≤v→v<m→∃ l,dW p (n+1) v=some l∧l[0]?=some v∧l.getLast?=some r∧(∀(i:Nat) (a b:Int),l[i]?=some a→l[i+1]?=some b→cJ m L a b=true):=by
 intro n
 induction n with
 | zero =>
  intro v hd h0 h1
  have hl:=T.len
  rcases T.at_ v h0 h1 with⟨e1,e2⟩|⟨_,e2,_⟩
  ·refine⟨[v],?_,rfl,by rw[e2];rfl,fun i a b h2 h3=>?_⟩
   ·rw[dW,if_pos ⟨h0,by omega⟩,if_pos e1]
   ·simp at h3
  ·omega
 | succ n ih =>
  intro v hd h0 h1
  have hl:=T.len
  rcases T.at_ v h0 h1 with⟨e1,e2⟩|⟨e1,e2,e3⟩
  ·refine⟨[v],?_,rfl,by rw[e2];rfl,fun i a b h2 h3=>?_⟩
   ·rw[dW,if_pos ⟨h0,by omega⟩,if_pos e1]
   ·simp at h3
  ·have hg:=dZ e1
   obtain⟨l,k1,k2,k3,k4⟩:=ih (atL p v.toNat) (by omega) hg.1.1 hg.1.2
   have cQ:¬atL p v.toNat=-1:=by omega
   have MB:l≠[]:=by rintro rfl;simp at k2
   refine⟨v::l,?_,rfl,?_,fun i a b h2 h3=>?_⟩
   ·rw[dW,if_pos ⟨h0,by omega⟩,if_neg cQ,k1];rfl
   ·rw[List.getLast?_cons];rw[k3];rfl
   ·rcases i with _|i
    ·simp at h2 h3
     rw[k2]at h3
     cases h2;cases h3
     rw[xL];exact e1
    ·simp at h2 h3
     exact k4 i a b h2 h3
theorem pathP(T:zU m L r p d){v:Int}(h0:0≤v)(h1:v<m):∃ l,dW p p.length v=some l∧Dm.Tc.pathP p p.length v=l∧l[0]?=some v∧l.getLast?=some r∧(∀(i:Nat) (a b:Int),l[i]?=some a→l[i+1]?=some b→cJ m L a b=true):=by
 obtain⟨l,k1,k2,k3,k4⟩:=T.path (d v) v (Nat.le_refl _) h0 h1
 have hl:=(vK k1).1
 have e:dW p p.length v=some l:=by
  have:=Yi (p:=p) (m:=max (d v+1) p.length) (Nat.le_max_right _ _) v
  rw[←this]
  exact lX k1 (Nat.le_max_left _ _)
 exact⟨l,e,by simp[Dm.Tc.pathP,e],k2,k3,k4⟩
theorem roots(T:zU m L r p d):Mt p=1:=by
 have hl:=T.len
 have hp:p=(fH m).map fun v=>atL p v.toNat:=by
  apply List.ext_getElem
  ·simp[rX];omega
  ·intro i h1 h2
   simp only[fH,List.map_map,List.getElem_map,List.getElem_range,Function.comp_apply,Int.toNat_natCast]
   exact(jJ h1).symm
 have h1:(p.filter fun x=>decide (x=-1)).length=((fH m).filter fun v=>decide (atL p v.toNat=-1)).length:=by
  conv=>lhs;rw[hp,List.filter_map]
  rw[List.length_map];rfl
 have h2:((fH m).filter fun v=>decide (atL p v.toNat=-1)).length=1:=by
  have n1:((fH m).filter fun v=>decide (atL p v.toNat=-1)).Nodup:=List.Pairwise.filter _ (T9 m)
  have a1:=yY n1 (B:=[r]) fun x hx=>by
   obtain⟨Hi,hx2⟩:=List.mem_filter.1 hx
   have Hi:=Fl.1 Hi
   have hx2:atL p x.toNat=-1:=of_decide_eq_true hx2
   rcases T.at_ x Hi.1 Hi.2 with⟨_,e⟩|⟨e,_,_⟩
   ·rw[e];simp
   ·have:=(dZ e).1;omega
  have a2:=yY (A:=[r]) (by simp) (B:=(fH m).filter fun v=>decide (atL p v.toNat=-1)) fun x hx=>by
   have e:x=r:=by simpa using hx
   subst e
   refine List.mem_filter.2 ⟨Fl.2 T.rt,decide_eq_true ?_⟩
   rcases T.at_ x T.rt.1 T.rt.2 with⟨e,_⟩|⟨_,_,e⟩
   ·exact e
   ·exact absurd rfl e
  exact Nat.le_antisymm a1 a2
 unfold Mt
 rw[h1,h2];rfl
theorem spans(T:zU m L r p d):tI m L p=true:=by
 unfold tI
 rw[T.roots,decide_eq_true T.len,decide_eq_true rfl,Bool.and_true,Bool.and_true,List.all_eq_true]
 intro v hv
 rw[List.mem_range]at hv
 have hl:=T.len
 obtain⟨l,_,k2,k3,_,_⟩:=T.pathP (v:=(v:Int)) (by omega) (by omega)
 have cQ:Dm.Tc.pathP p p.length v≠[]:=by rw[k2];rintro rfl;simp at k3
 unfold mR
 rw[decide_eq_true cQ,Bool.and_true,Bool.or_eq_true]
 rcases T.at_ v (by omega) (by omega)with⟨e,_⟩|⟨e,_,_⟩
 ·rw[Int.toNat_natCast]at e;exact .inl (decide_eq_true e)
 ·rw[Int.toNat_natCast]at e;exact .inr e
theorem onAll(T:zU m L r p d){v:Int}(h0:0≤v)(h1:v<m):r∈Dm.Tc.pathP p p.length v:=by
 obtain⟨l,_,k2,_,k4,_⟩:=T.pathP h0 h1
 rw[k2]
 exact List.mem_of_getLast? k4
theorem belowAll(T:zU m L r p d):(Oy p r).length=p.length:=by
 have hl:=T.len
 unfold Oy
 rw[List.length_map,List.filter_eq_self.2,List.length_range]
 intro v hv
 rw[List.mem_range]at hv
 exact decide_eq_true (T.onAll (by omega) (by omega))
end zU
theorem FlI.none(I:FlI m L r s W con d)(hq:∀u v,W u v=[])(hr:s r=.gone (-1))(v:Int):wE s v=-2:=by
 unfold wE
 cases hs:s v with
 | fresh=>rfl
 | has q=>exact absurd hs (I.ended hq hr v q)
 | gone q=>rfl
end Go.Dm.Tc
