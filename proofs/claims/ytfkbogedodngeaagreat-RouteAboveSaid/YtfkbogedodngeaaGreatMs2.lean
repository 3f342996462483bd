/- A part of the proof. -/
import Derived.Test.YtfkbogedodngeaaGreatMs1
import Derived.Test.YtfkbogedodngeaaGreatMs0
set_option linter.all false
set_option maxRecDepth 100000
namespace Go.Dm.Tc
theorem s93(tc td sc sd:Int)(p:aZ)(q:Int)(u:Bool):pcF D t93 [.agg [.int .i64 tc,.int .i64 td,.int .i64 sc,.int .i64 sd,bO p,.int .i64 q,.bool u]]=some (.agg [.int .i64 3,.int .i64 tc,.int .i64 td,.int .i64 sc,.int .i64 sd,bO p,.isl false 0 []]):=by
 unfold pcF
 rw[aM _ _ _ _ (by simp[t93])]
 simp[t93,turn]
structure ZL(b:aG)(k:Nat):Prop where
 bJ:b.bJ.length≤100000
 adv:b.aP.length≤100000
 seen:b.seen.length≤100000
 own:b.cW.length≤100000
 ent:b.entries.length+k≤100000
theorem ZL.sized{b:aG}{k:Nat}(h:ZL b k):mK b:=⟨h.bJ,h.adv,h.seen,by have:=h.ent;omega,h.own⟩
theorem ZL.less{b:aG}{k m:Nat}(h:ZL b k)(hm:m≤k):ZL b m:=⟨h.bJ,h.adv,h.seen,h.own,by have:=h.ent;omega⟩
theorem wQ(b:aG)(e:aX):(eS b e).1.bJ=b.bJ∧(eS b e).1.aP=b.aP∧(eS b e).1.seen=b.seen∧(eS b e).1.cW=b.cW∧(eS b e).1.me=b.me∧(eS b e).1.entries.length≤b.entries.length+1:=by
 unfold eS
 split
 ·exact⟨rfl,rfl,rfl,rfl,rfl,by simp only[Tb];omega⟩
 ·exact⟨rfl,rfl,rfl,rfl,rfl,by simp⟩
theorem ZL.add{b:aG}{k:Nat}(h:ZL b (k+1))(e:aX):ZL (eS b e).1 k:=by
 obtain⟨h1,h2,h3,h4,_,h5⟩:=wQ b e
 have:=h.ent
 exact⟨by rw[h1];exact h.bJ,by rw[h2];exact h.adv,by rw[h3];exact h.seen,by rw[h4];exact h.own,by omega⟩
def zB:DV:=.agg [.int .i64 0,.nsl,.nsl,.nsl,.nsl,.nsl]
end Go.Dm.Tc
/-
What functions compute,part 36: an advertisement taken back;a broker's side.
-/
namespace Go.Dm.Tc
theorem _root_.Go.Dm.OwnR.wl{lo:Nat}{h:aA}{v:DV}{ety sz:Nat}{xs:List DV}(w:OwnR lo h v ety sz xs){m:Nat}(hm:m≤lo):OwnR lo (Dm.wl h m) v ety sz xs:=by
 cases w with
 | nil hv hx=>exact .nil hv hx
 | arr id sp cap hv hg hl hi=>exact .arr id sp cap hv hg (Nat.le_trans hm hi) hi
end Go.Dm.Tc
/-
What the reference's functions compute,part 12: a bS of the broker's subscribes.
-/
namespace Go.Dm.Tc
def subOwn(b:aG)(x:ID)(p:aZ):aG:={b with cW:=oN (fun o=>o.id) ⟨x,p⟩ b.cW}
def eY(x:ID)(p:aZ)(st:aG×List iW)(a:bZ):aG×List iW :=
 if vA p a.pred=true then((eS st.1 ⟨a.id,x,p,-1,false⟩).1,if(eS st.1 ⟨a.id,x,p,-1,false⟩).2=true then st.2++[⟨a.dC,3,a.id,x,p⟩]else st.2)
 else st
def eV(b:aG)(x:ID)(p:aZ):aG×List iW :=
 if eJ (fun o:gT=>cQ o.id x) b.cW=true then(b,[])else b.aP.foldl (eY x p) (subOwn b x p,[])
end Go.Dm.Tc
/-
What the reference's functions compute,part 13: a bS of the broker's subscribes,with its row still written.
-/
namespace Go.Dm.Tc
theorem EU{lo:Nat}{h:aA}{i ety:Nat}{os:List gT}{n:Nat}(o:kA lo h i ety 3 (os.map bL))(hn:n=os.length):gI h (.sl i 3 0 n)=some (eL false 3 bL os,h.set i .dead):=by
 subst hn
 obtain⟨⟨sp,cap,hg⟩,hl,_⟩:=o
 have hb:(List.take os.length (List.map bL os++sp)).all (dJ 200 0)=true:=by
  rw[List.take_left' (by simp),List.all_eq_true]
  intro x hx
  obtain⟨y,_,rfl⟩:=List.mem_map.1 hx
  exact(H8 y).belowN (by decide)
 simp only[gI,hg,hl,List.drop_zero,hb,List.length_append,List.length_map,Nat.zero_add,Nat.le_add_right,and_self,if_true]
 rw[List.take_left' (by simp)]
 cases os<;>rfl
end Go.Dm.Tc
/-
What the reference's functions compute,part 14: a bS of the broker's subscribes,all of it.
-/
namespace Go.Dm.Tc
theorem Bi{α:Type}(key:α→ID)(a:α)(l:List α):(oN key a l).length=l.length+1:=by
 unfold oN
 have:=hG (fun b=>cQ (key b) (key a)) l
 simp only[List.length_append,List.length_cons,List.length_take,List.length_drop]
 omega
theorem Oe{l:List gT}(hr:eG (l.map (·.id)))(x:ID):eJ (fun o:gT=>cQ o.id x) l=false→∀o∈l,o.id≠x:=by
 intro hh o ho
 have hf:=zY (fun a:gT=>a.id) hr x
 cases hq:l.find? (fun b=>decide (b.id=x))with
 | none=>exact(rJ (fun a:gT=>a.id) x).1 hq o ho
 | some a=>rw[hq]at hf;rw[hf.1]at hh;cases hh
theorem eR.subOwn{b:aG}(h:eR b){x:ID}{p:aZ}(hp:bM p)(hn:∀o∈b.cW,o.id≠x):eR (subOwn b x p):=by
 obtain⟨h1,h2,h3,h4,h5,h6,h7,h8,h9,lJ,ET,MP,ES⟩:=h
 refine⟨h1,h2,h3,h4,mV (fun o:gT=>o.id) ⟨x,p⟩ h5 hn,h6,h7,h8,h9,?_,ET,MP,ES⟩
 intro o ho
 unfold Tc.subOwn oN at ho
 simp only at ho
 rcases List.mem_append.1 ho with h|h
 ·exact lJ o (List.mem_of_mem_take h)
 ·rcases List.mem_cons.1 h with rfl|h
  ·exact hp
  ·exact lJ o (List.mem_of_mem_drop h)
end Go.Dm.Tc
/-
What the reference's functions compute,part 15: an entry dropped.
-/
namespace Go.Dm.Tc
def kD(to:Int)(kK:List aX):List iW:=kK.map fun e=>⟨to,3,e.tree,e.sub,e.pred⟩
def dW(b:aG)(t s:ID)(q:Int):aG×List iW :=
 if(dO b t s q).2.2=true then((dO b t s q).1,kD (dR b t) (dO b t s q).2.1++[⟨dR b t,4,t,s,[]⟩])else((dO b t s q).1,[])
theorem AS{b:aG}(h:eR b){t s:ID}{q:Int}(hu:(dO b t s q).2.2=true):(dO b t s q).1.aP=b.aP∧∃ a,advOf b t=some a:=by
 rcases mN h t s q with⟨e,_⟩|⟨e,_,_,_,_,ht⟩|⟨e,hm,hi,_,_,r',u',ht,_⟩
 ·rw[e]at hu;cases hu
 ·rw[ht]at hu;cases hu
 ·rw[ht]
  refine⟨rfl,?_⟩
  obtain⟨a,ha,_⟩:=fM.1 (h.ent e hm)
  have:e.tree=t:=by simp only[isE,Bool.and_eq_true,decide_eq_true_eq]at hi;first|exact hi.1|exact hi.2
  exact⟨a,by rw[←this];exact ha⟩
theorem Qe{b:aG}(h:eR b)(t s:ID)(q:Int):(dO b t s q).2.1.length≤b.entries.length:=by
 exact Qc b t s q
end Go.Dm.Tc
/-
What the reference's functions compute,part 16: subscriptions by a link.
-/
namespace Go.Dm.Tc
def fN(b:aG)(q:Int)(t s:ID)(p:aZ):aG×List iW :=
 ((eS b ⟨t,s,p,q,false⟩).1,if(eS b ⟨t,s,p,q,false⟩).2=true then[⟨dR b t,3,t,s,p⟩]else[])
theorem LU{b:aG}{e:aX}(hu:(eS b e).2=true):∃ a,advOf b e.tree=some a:=by
 unfold eS at hu
 split at hu
 ·rename_i hm
  obtain⟨a,ha,_⟩:=xW.1 hm
  exact⟨a,ha⟩
 ·cases hu
end Go.Dm.Tc
/-
What the reference's functions compute,part 17: a bS of the broker's ends a subscription.
-/
namespace Go.Dm.Tc
def jX(x:ID)(st:aG×List iW)(a:bZ):aG×List iW:=((dW st.1 a.id x (-1)).1,st.2++(dW st.1 a.id x (-1)).2)
def endOwn(b:aG)(x:ID):aG:={b with cW:=sW (fun o=>o.id) x b.cW}
def eU(b:aG)(x:ID):aG×List iW :=
 if(sW (fun o:gT=>o.id) x b.cW).length=b.cW.length then(b,[])else b.aP.foldl (jX x) (endOwn b x,[])
theorem rY:∀(os:List iW),qF (os.map jA) os:=fun os=>⟨by simp,fun tag h n hn=>pM fun x hx=>by
 obtain⟨o,_,rfl⟩:=List.mem_map.1 hx
 exact(mP o).1 tag h n (by omega)⟩
theorem sM(b:aG)(t s:ID)(q:Int):(dW b t s q).1=(dO b t s q).1:=by unfold dW;split<;>rfl
theorem Ag{b:aG}(h:eR b)(t s:ID)(q:Int):(dW b t s q).2.length≤b.entries.length+1:=by
 unfold dW
 split
 ·have:=Qe h t s q;simp[kD];exact this
 ·simp
theorem ZL.take{b:aG}(h:ZL b 0)(hi:eR b)(t s:ID)(q:Int):ZL (dO b t s q).1 0:=by
 obtain⟨h1,h2,h3,h4,h5⟩:=h
 rcases mN hi t s q with⟨e,_⟩|⟨e,_,_,_,_,ht⟩|⟨e,hm,_,_,_,r',u',ht,hr,_⟩
 ·rw[e];exact⟨h1,h2,h3,h4,h5⟩
 ·rw[ht]
  have:=List.length_filter_le (fun x=>!isE t s x) b.entries
  exact⟨h1,h2,h3,h4,by simp only;omega⟩
 ·rw[ht]
  have:=List.length_filter_le (fun x=>!isE t s x) b.entries
  have h6:=hr.len
  exact⟨h1,h2,h3,h4,by simp only;omega⟩
end Go.Dm.Tc
/-
What the reference's functions compute,part 18: a bS of the broker's ends a subscription,all of it.
-/
namespace Go.Dm.Tc
end Go.Dm.Tc
/-
What the reference's functions compute,part 19: the end of a subscription,with the row still written.
-/
namespace Go.Dm.Tc
end Go.Dm.Tc
/-
What the reference's functions compute,part 20: the end of a subscription,all of it.
-/
namespace Go.Dm.Tc
theorem eR.endOwn{b:aG}(h:eR b)(x:ID):eR (endOwn b x):=by
 obtain⟨h1,h2,h3,h4,h5,h6,h7,h8,h9,lJ,ET,MP,ES⟩:=h
 refine⟨h1,h2,h3,h4,Ed (fun o:gT=>o.id) x h5,h6,h7,h8,h9,?_,ET,MP,ES⟩
 intro o ho
 exact lJ o ((List.mem_filter.1 ho).1)
theorem ZL.endOwn{b:aG}(h:ZL b 0)(x:ID):ZL (endOwn b x) 0 :=
 ⟨h.bJ,h.adv,h.seen,Nat.le_trans (List.length_filter_le ..) h.own,h.ent⟩
end Go.Dm.Tc
/-
What the reference's functions compute,part 21: a message comes by a link;a broker's side.
-/
namespace Go.Dm.Tc
theorem Fj(t:Bool)(h:aA)(n:Nat):resolve t h (n+1) (.isl false 0 [])=some (.isl false 0 []):=rfl
end Go.Dm.Tc
/-
What every broker keeps that is told anything: plain laws.
-/
namespace Go.Dm.Tc
structure Ap(a b:aG)(k:Nat):Prop where
 me:b.me=a.me
 bJ:b.bJ=a.bJ
 adv:b.aP=a.aP
 seen:b.seen=a.seen
 own:b.cW=a.cW
 ent:b.entries.length≤a.entries.length+k
theorem Ap.refl(a:aG)(k:Nat):Ap a a k:=⟨rfl,rfl,rfl,rfl,rfl,by omega⟩
theorem Ap.trans{a b c:aG}{j k:Nat}(h1:Ap a b j)(h2:Ap b c k):Ap a c (j+k) :=
 ⟨h2.me.trans h1.me,h2.bJ.trans h1.bJ,h2.adv.trans h1.adv,h2.seen.trans h1.seen,h2.own.trans h1.own,by have:=h1.ent;have:=h2.ent;omega⟩
theorem Ap.mono{a b:aG}{j k:Nat}(h:Ap a b j)(hk:j≤k):Ap a b k:=⟨h.me,h.bJ,h.adv,h.seen,h.own,by have:=h.ent;omega⟩
theorem Z0(b:aG)(e:aX):Ap b (eS b e).1 1:=by
 obtain⟨h1,h2,h3,h4,h5,h6⟩:=wQ b e
 exact⟨h5,h1,h2,h3,h4,h6⟩
theorem Qj(x:ID)(p:aZ)(hp:bM p):∀(l:List bZ) (st:aG×List iW),eR st.1→eR (l.foldl (eY x p) st).1∧Ap st.1 (l.foldl (eY x p) st).1 l.length
 | [],st,h=>⟨h,.refl _ _⟩
 | o::r,st,h=>by
  have h1:eR (eY x p st o).1∧Ap st.1 (eY x p st o).1 1:=by
   unfold eY
   split
   ·exact⟨h.add (by simp[nQ]) hp,Z0 ..⟩
   ·exact⟨h,.refl _ _⟩
  have h2:=Qj x p hp r (eY x p st o) h1.1
  exact⟨h2.1,(h1.2.trans h2.2).mono (by simp only[List.length_cons];omega)⟩
end Go.Dm.Tc
/-
What every broker keeps that is told anything,call by call.
-/
namespace Go.Dm.Tc
theorem Mp(n:Nat):(n+1)*(n+1)=n*n+n+n+1:=by rw[Nat.add_mul,Nat.mul_add];omega
theorem Ap.sz{a b:aG}{k n:Nat}(h:Ap a b k)(z:SzK a n)(hk:k≤n+n+1):SzK b (n+1):=by
 obtain⟨h1,h2,h3,h4,h5,h6⟩:=h
 obtain⟨z1,z2,z3,z4,z5⟩:=z
 have:=Mp n
 exact⟨by rw[h2];exact z1,by rw[h3];omega,by rw[h4];omega,by rw[h5];omega,by omega⟩
theorem W0{b:aG}{n:Nat}(h:eR b)(z:SzK b n)(t s:ID)(q:Int):eR (dW b t s q).1∧SzK (dW b t s q).1 (n+1):=by
 rw[sM]
 exact⟨h.take ..,(z.take h ..).mono (by omega)⟩
theorem El{b:aG}{n:Nat}(h:eR b)(z:SzK b n){x:ID}{p:aZ}(hp:bM p):eR (eV b x p).1∧SzK (eV b x p).1 (n+1):=by
 unfold eV
 split
 ·exact⟨h,z.mono (by omega)⟩
 ·rename_i hh
  have hi:=h.subOwn hp (Oe h.ro x (by simpa using hh))
  have hk:=Qj x p hp b.aP (subOwn b x p,[]) hi
  refine⟨hk.1,?_⟩
  obtain⟨h1,h2,h3,h4,h5,h6⟩:=hk.2
  have hl:(subOwn b x p).cW.length=b.cW.length+1:=Bi ..
  obtain⟨z1,z2,z3,z4,z5⟩:=z
  have:=Mp n
  simp only at h2 h3 h4 h5 h6
  exact⟨by rw[h2];exact z1,by rw[h3];exact Nat.le_succ_of_le z2,by rw[h4];exact Nat.le_succ_of_le z3,by rw[h5,hl];omega,by have:(subOwn b x p).entries=b.entries:=rfl;rw[this]at h6;omega⟩
end Go.Dm.Tc
/-
What the program's routes compute,part 1: where a subscription of its own stands;an entry added,passed on.
-/
namespace Go.Dm.Tc
theorem FX(a b:ID):cQ a b=if a=b then 0 else if qC a b=true then -1 else 1:=by
 split
 ·rename_i h;exact pX.2 h
 ·rename_i h
  have h1:¬cQ a b=0:=fun e=>h (pX.1 e)
  unfold qC
  simp only[decide_eq_true_eq]
  unfold cQ orI cmpI at *
  split<;>(try split)<;>(try split)<;>(try split)<;>(try split)<;>simp_all<;>omega
theorem s87(a b:Int)(p:aZ)(c d:Int):pcF D t87 [.agg [.int .i64 a,.int .i64 b,bO p],.agg [.int .i64 c,.int .i64 d]]=some (.int .i64 (cQ ⟨a,b⟩ ⟨c,d⟩)):=by
 have hl:=s88 a b c d
 rw[FX]
 unfold pcF
 rw[aM _ _ _ _ (by simp[t87])]
 by_cases h:(⟨a,b⟩:ID)=⟨c,d⟩
 ·obtain⟨rfl,rfl⟩:a=c∧b=d:=by injection h with h1 h2;exact⟨h1,h2⟩
  simp[t87,turn]
 ·have h1:=EK h
  simp only at h1
  cases hq:qC ⟨a,b⟩ ⟨c,d⟩with
  | true=>rw[hq]at hl;simp[t87,turn,h,h1,e88,hl]
  | false=>rw[hq]at hl;simp[t87,turn,h,h1,e88,hl]
theorem s42(t:gQ)(b:aG)(c d:Int)(hr:eG (b.cW.map (·.id)))(hl:b.cW.length≤1000000) :
  pcF D t42 [aQ t b,.agg [.int .i64 c,.int .i64 d]]=some (.tup [.int .i64 (bG (fun a:gT=>cQ a.id ⟨c,d⟩) b.cW),.bool (eJ (fun a:gT=>cQ a.id ⟨c,d⟩) b.cW)]):=by
 have hb:=s86 t.cW b.cW c d 87 [] (fun a=>cQ a.id ⟨c,d⟩) (fun x _ h=>by simp[bL,e87,s87]) hl (lS hr ⟨c,d⟩)
 unfold pcF
 rw[aM _ _ _ _ (by simp[t42])]
 simp[t42,e86,hb,aL,turn]
theorem s46(b:aG)(tc td sc sd q:Int)(p:aZ)(hi:eR b)(hz:mK b)(hp:bM p) :
  pcF D t46 [aQ .none b,.agg [.int .i64 tc,.int .i64 td,.int .i64 sc,.int .i64 sd,bO p,.int .i64 q,.bool false]]=some (.tup [aQ .none (fN b q ⟨tc,td⟩ ⟨sc,sd⟩ p).1,eL false 8 jA (fN b q ⟨tc,td⟩ ⟨sc,sd⟩ p).2]):=by
 have Oj:=TL hi hz tc td sc sd hp q false
 have hF:=kAF .none hi hz tc td
 unfold pcF
 rw[aM _ _ _ _ (by simp[t46])]
 cases hu:(eS b ⟨⟨tc,td⟩,⟨sc,sd⟩,p,q,false⟩).2 with
 | false =>
  rw[hu]at Oj
  have hd:fN b q ⟨tc,td⟩ ⟨sc,sd⟩ p=((eS b ⟨⟨tc,td⟩,⟨sc,sd⟩,p,q,false⟩).1,[]):=by simp[fN,hu]
  rw[hd]
  obtain⟨⟨vc,vd⟩,vp,vq⟩:bZ:=(advOf b ⟨tc,td⟩).getD pD
  generalize (advOf b ⟨tc,td⟩).getD pD=a at *
  obtain⟨⟨vc,vd⟩,vp,vq⟩:=a
  simp[t46,e66,hF,aH,e92,Oj,turn,aL,mZ]
 | true =>
  rw[hu]at Oj
  obtain⟨⟨⟨ac,ad⟩,ap,aq⟩,ha⟩:=LU hu
  rw[ha]at hF
  have uH:dR b ⟨tc,td⟩=aq:=by rw[fF,ha];rfl
  have hd:fN b q ⟨tc,td⟩ ⟨sc,sd⟩ p=((eS b ⟨⟨tc,td⟩,⟨sc,sd⟩,p,q,false⟩).1,[⟨aq,3,⟨tc,td⟩,⟨sc,sd⟩,p⟩]):=by simp[fN,hu,uH]
  rw[hd]
  have ri:∀h,resolve false h 197 (.isl false 0 [])=some (.isl false 0 []):=fun _=>rfl
  simp[t46,ri,e66,hF,aH,e92,Oj,turn,e93,s93,aL]
  have MD:bE 199 (eL false 8 jA [⟨aq,3,⟨tc,td⟩,⟨sc,sd⟩,p⟩])=true:=jH (fun y _=>(mP y).2) 199 (by decide)
  exact⟨MD,rfl⟩
end Go.Dm.Tc
/-
What the program's routes compute,part 2: an entry taken out;subscriptions by a link.
-/
namespace Go.Dm.Tc
theorem l48(S:List Fr)(t:Bool)(kK:List aX)(hl:kK.length≤100000)(ac ad to:Int)(ap:aZ)(h0:aA)(aS:h0.lim≤5)(g4:h0.get 4=some (.arr 37 4 [.agg [.int .i64 ac,.int .i64 ad,bO ap,.int .i64 to]] (some 1)))(P:Res→Prop) :
  ∀(rest:List aX) (i:Nat) (gZ:List iW) (es:List DV) (v:DV) (f:dK) (h:aA),kK.drop i=rest→qF es gZ→(es.length≤i∧i≤kK.length)→f 10=.ptr 4 4 0 0→f 14=v→f 35=eL t 7 aD kK→f 36=.int .i64 kK.length→f 37=.int .i64 i→OwnR 5 h v 54 8 es→Ext 5 h0 h →
  (∀f' h' v' es',f' 14=v'→(∀r,r<12→f' r=f r)→es'.length≤kK.length→qF es' (gZ++kD to rest)→OwnR 5 h' v' 54 8 es'→Ext 5 h0 h'→P (run D 60 S Qf f' h')) →
  P (run D 60 (.block 0::.seq Qf::S) (.loop C7) f h):=by
 intro rest
 induction rest with
 | nil =>
  intro i gZ es v f h hd hr he lJ G3 h35 h36 h37 ho x hP
  have hi:=fY hd
  have:¬(i<kK.length):=by omega
  have k:∀r q:Nat,r<12→12≤q→¬r=q:=fun r q h1 h2=>by omega
  rw[aO C7.eq_1]
  simp[h36,h37,this]
  refine hP _ h v es (by simp[G3]) (fun r KF=>by simp[k r _ KF]) (by omega) (by simpa[kD]using hr) ho x
 | cons e rest ih =>
  intro i gZ es v f h hd hr he lJ G3 h35 h36 h37 ho x hP
  obtain⟨hi,EP,nJ⟩:=iI hd
  obtain⟨⟨tc,td⟩,⟨sc,sd⟩,p,q,u⟩:=e
  have hnl:=x.le
  have Bk:=x.lim
  have a4:=(x.get 4 (by decide)).trans g4
  have k:∀r q:Nat,r<12→12≤q→¬r=q:=fun r q h1 h2=>by omega
  obtain⟨m,oO⟩:∃ m,h.n=m+5:=⟨h.n-5,by omega⟩
  rw[aO C7.eq_1]
  have Vn:h.lim≤m+5:=by omega
  simp[lJ,G3,h35,h36,h37,hi,EP,a4,aD,oO,x.wf,turn,Vn,e93,s93]
  generalize hA:bF _ _ _ _ _ _=A
  obtain⟨v',K,rfl,p',x',_⟩:=OwnR.append (ho.push.push) (by simp[x.wf]) (by simp[oO]<;>omega) (by simp[oO];omega) hA (by simp;omega) (by decide)
  clear hA
  simp[h37]
  rw[bC (by omega) (by omega)]
  generalize hF:upd _ 37 _=F
  have zR:=qF.append hr (qF.one (to:=to) (k:=3) (tc:=tc) (td:=td) (ic:=sc) (id:=sd) (pd:=bO p) (ad:=.isl false 0 []) (.inl rfl) (.inr rfl))
  refine ih (i+1) _ _ v' F K nJ zR ⟨by simp;omega,by omega⟩ ?_ ?_ ?_ ?_ ?_ (by simpa[P6]using p') ((x.push.push).trans x') ?_
  all_goals first
   | (rw[←hF];simp[lJ,G3,h35,h36];done)
   | skip
  intro f' h' v2 es' a1 a3 a4 a5 a6 a7
  refine hP f' h' v2 es' a1 (fun r KF=>?_) a4 (by simpa[kD]using a5) a6 a7
  rw[a3 r KF,←hF]
  simp[k r _ KF]
theorem s48(b:aG)(tc td sc sd q:Int)(hi:eR b)(hz:mK b) :
  pcF D t48 [aQ .none b,.agg [.int .i64 tc,.int .i64 td],.agg [.int .i64 sc,.int .i64 sd],.int .i64 q]=some (.tup [aQ .none (dW b ⟨tc,td⟩ ⟨sc,sd⟩ q).1,eL false 8 jA (dW b ⟨tc,td⟩ ⟨sc,sd⟩ q).2]):=by
 have ht:=RK hi hz tc td sc sd q
 have hFd:=kAF .none hi hz tc td
 unfold pcF
 rw[aM _ _ _ _ (by simp[t48])]
 cases hu:(dO b ⟨tc,td⟩ ⟨sc,sd⟩ q).2.2 with
 | false =>
  rw[hu]at ht
  have hd:dW b ⟨tc,td⟩ ⟨sc,sd⟩ q=((dO b ⟨tc,td⟩ ⟨sc,sd⟩ q).1,[]):=by simp[dW,hu]
  rw[hd]
  generalize (advOf b ⟨tc,td⟩).getD pD=a at *
  obtain⟨⟨vc,vd⟩,vp,vq⟩:=a
  simp[t48,e66,hFd,aH,e94,ht,turn,aL,mZ]
 | true =>
  rw[hu]at ht
  obtain⟨Tj,⟨⟨ac,ad⟩,ap,aq⟩,ha⟩:=AS hi hu
  rw[ha]at hFd
  have uH:dR b ⟨tc,td⟩=aq:=by rw[fF,ha];rfl
  have hd:dW b ⟨tc,td⟩ ⟨sc,sd⟩ q=((dO b ⟨tc,td⟩ ⟨sc,sd⟩ q).1,kD aq (dO b ⟨tc,td⟩ ⟨sc,sd⟩ q).2.1++[⟨aq,4,⟨tc,td⟩,⟨sc,sd⟩,[]⟩]):=by simp[dW,hu,uH]
  rw[hd]
  simp[t48,e66,hFd,aH,e94,ht,turn]
  generalize hF:upd _ 37 _=F
  generalize hH:aA.push _ _=H0
  have hul:(dO b ⟨tc,td⟩ ⟨sc,sd⟩ q).2.1.length≤100000:=Nat.le_trans (Qe hi ..) hz.ent
  generalize (dO b ⟨tc,td⟩ ⟨sc,sd⟩ q).2.1=kK at *
  generalize As:(dO b ⟨tc,td⟩ ⟨sc,sd⟩ q).1=b1 at *
  have hn4:H0.n=5:=by rw[←hH];simp
  have G0:H0.lim=0:=by rw[←hH];simp
  have hw0:WF H0:=by rw[←hH];simp
  refine l48 [] false kK hul ac ad aq ap H0 (by omega) (by rw[←hH];simp) (fun r=>gV (fin [.cell 8 (some 6),.t 9] r)=some (.tup [aQ .none b1,eL false 8 jA (kD aq kK++[⟨aq,4,⟨tc,td⟩,⟨sc,sd⟩,[]⟩])])) kK 0 [] [] .nsl F H0 rfl qF.nil ⟨by simp,Nat.zero_le _⟩ (by rw[←hF];simp) (by rw[←hF];simp) (by rw[←hF];simp) (by rw[←hF];simp) (by rw[←hF];simp) (.nil rfl rfl) (.refl (by omega) hw0) fun f' h' v' es' q14 qr nI hrw hov x=>?_
  have q4:f' 4=.ptr 0 6 0 0:=by rw[qr 4 (by decide),←hF];simp
  have q5:f' 5=.ptr 1 2 0 0:=by rw[qr 5 (by decide),←hF];simp
  have q6:f' 6=.ptr 2 2 0 0:=by rw[qr 6 (by decide),←hF];simp
  have q8:f' 8=.ptr 3 6 0 0:=by rw[qr 8 (by decide),←hF];simp
  have q10:f' 10=.ptr 4 4 0 0:=by rw[qr 10 (by decide),←hF];simp
  have a0:h'.get 0=some (.arr 31 6 [aQ .none b1] (some 1)):=(x.get 0 (by decide)).trans (by rw[←hH];simp)
  have a1:h'.get 1=some (.arr 24 2 [.agg [.int .i64 tc,.int .i64 td]] (some 1)):=(x.get 1 (by decide)).trans (by rw[←hH];simp)
  have a2:h'.get 2=some (.arr 24 2 [.agg [.int .i64 sc,.int .i64 sd]] (some 1)):=(x.get 2 (by decide)).trans (by rw[←hH];simp)
  have a3:h'.get 3=some (.arr 31 6 [.agg [.int .i64 0,.nsl,.nsl,.nsl,.nsl,.nsl]] (some 1)):=(x.get 3 (by decide)).trans (by rw[←hH];simp)
  have a4:h'.get 4=some (.arr 37 4 [.agg [.int .i64 ac,.int .i64 ad,bO ap,.int .i64 aq]] (some 1)):=(x.get 4 (by decide)).trans (by rw[←hH];simp)
  have al:h'.lim=0:=x.lim.trans G0
  obtain⟨m,oO⟩:∃ m,h'.n=m+5:=⟨h'.n-5,by have:=x.le;omega⟩
  have iT:=qF.append hrw (qF.one (to:=aq) (k:=4) (tc:=tc) (td:=td) (ic:=sc) (id:=sd) (pd:=.nsl) (ad:=.nsl) (p:=[]) (.inr ⟨rfl,rfl⟩) (.inl rfl))
  simp only[List.nil_append]at iT
  have MD:bE 199 (eL false 8 jA (kD aq kK++[⟨aq,4,⟨tc,td⟩,⟨sc,sd⟩,[]⟩]))=true:=jH (fun y _=>(mP y).2) 199 (by decide)
  cases hov with
  | nil hv hx =>
   subst hv
   subst hx
   simp[Qf,q4,q5,q6,q8,q10,q14,a0,a1,a2,a3,a4,al,oO,x.wf]
   generalize hA:bF _ _ _ _ _ _=A
   obtain⟨v2,K,rfl,p',x',_⟩:=OwnR.append (lo:=5) (OwnR.start 5 _ 54 8) (by simp[x.wf]) (by simp[oO]<;>omega) (by simp[oO,al]) hA (by simp<;>omega) (by decide)
   clear hA
   have b0:=x'.get 0 (by decide)
   have b1':=x'.get 1 (by decide)
   have b2:=x'.get 2 (by decide)
   have b3:=x'.get 3 (by decide)
   have b4:=x'.get 4 (by decide)
   have bl:=x'.lim
   have bn:=x'.le
   have l3:3<K.n:=by omega
   simp[oO,a0,a1,a2,a3,a4,al]at b0 b1' b2 b3 b4 bl p'
   have r1:∀o,resolve false (Dm.wl (K.set 3 o) 0) 199 v2=some (eL false 8 jA (kD aq kK++[⟨aq,4,⟨tc,td⟩,⟨sc,sd⟩,[]⟩])):=fun o=>Dr ((by simpa[P6]using(p'.bA (o:=o) x'.wf (by decide) l3).wl (Nat.zero_le _)):OwnR 5 (Dm.wl (K.set 3 o) 0) v2 54 8 _) iT false (by decide)
   simp[q8,b0,b1',b2,b3,b4,bl,al,l3,x'.wf,turn,aL,r1,MD]
  | arr id sp cap hv hg Vn dM =>
   subst hv
   have hidn:=aI hg
   have e0:¬0=id:=by omega
   have e1:¬1=id:=by omega
   have e2:¬2=id:=by omega
   have e4:¬4=id:=by omega
   simp[Qf,q4,q5,q6,q8,q10,q14,a0,a1,a2,a3,a4,al,oO,x.wf,e0,e1,e2,e4]
   generalize hA:bF _ _ _ _ _ _=A
   obtain⟨v2,K,rfl,p',x',_⟩:=OwnR.append (lo:=5) (OwnR.push (.arr id sp cap rfl hg Vn dM)) (by simp[x.wf]) (by simp[oO]<;>omega) (by simp[oO,al]) hA (by simp<;>omega) (by decide)
   clear hA
   have b0:=x'.get 0 (by decide)
   have b1':=x'.get 1 (by decide)
   have b2:=x'.get 2 (by decide)
   have b3:=x'.get 3 (by decide)
   have b4:=x'.get 4 (by decide)
   have bl:=x'.lim
   have bn:=x'.le
   have l3:3<K.n:=by omega
   simp[oO,a0,a1,a2,a3,a4,al]at b0 b1' b2 b3 b4 bl p'
   have r1:∀o,resolve false (K.set 3 o) 199 v2=some (eL false 8 jA (kD aq kK++[⟨aq,4,⟨tc,td⟩,⟨sc,sd⟩,[]⟩])):=fun o=>Dr ((by simpa[P6]using p'.bA (o:=o) x'.wf (by decide) l3):OwnR 5 (K.set 3 o) v2 54 8 _) iT false (by decide)
   simp[q8,b0,b1',b2,b3,b4,bl,al,l3,x'.wf,turn,aL,r1,MD]
theorem s13(b:aG)(k tc td sc sd q:Int)(p:aZ)(hi:eR b)(hz:mK b) :
  pcF D t13 [aQ .none b,.int .i64 q,.agg [.int .i64 k,.int .i64 tc,.int .i64 td,.int .i64 sc,.int .i64 sd,bO p,.isl false 0 []]]=some (.tup [aQ .none (dW b ⟨tc,td⟩ ⟨sc,sd⟩ q).1,eL false 8 jA (dW b ⟨tc,td⟩ ⟨sc,sd⟩ q).2]):=by
 have hd:=s48 b tc td sc sd q hi hz
 have MD:∀os:List iW,bE 199 (eL false 8 jA os)=true:=fun os=>jH (fun y _=>(mP y).2) 199 (by decide)
 unfold pcF
 rw[aM _ _ _ _ (by simp[t13])]
 simp[t13,e48,hd,turn,aL,MD]
theorem s12(b:aG)(k tc td sc sd q:Int)(p:aZ)(hi:eR b)(hz:mK b)(hp:bM p) :
  pcF D t12 [aQ .none b,.int .i64 q,.agg [.int .i64 k,.int .i64 tc,.int .i64 td,.int .i64 sc,.int .i64 sd,bO p,.isl false 0 []]]=some (.tup [aQ .none (fN b q ⟨tc,td⟩ ⟨sc,sd⟩ p).1,eL false 8 jA (fN b q ⟨tc,td⟩ ⟨sc,sd⟩ p).2]):=by
 have hd:=s46 b tc td sc sd q p hi hz hp
 have MD:∀os:List iW,bE 199 (eL false 8 jA os)=true:=fun os=>jH (fun y _=>(mP y).2) 199 (by decide)
 unfold pcF
 rw[aM _ _ _ _ (by simp[t12])]
 simp[t12,e46,hd,turn,aL,MD]
end Go.Dm.Tc
/-
What the program's routes compute,part 3: a bS of the broker's subscribes.
-/
namespace Go.Dm.Tc
theorem BD{nb:aG}{x:ID}{p:aZ}{a:bZ}(gZ:List iW)(hm:vA p a.pred=true)(uH:dR nb a.id=a.dC) :
  eY x p (nb,gZ) a=((fN nb (-1) a.id x p).1,gZ++(fN nb (-1) a.id x p).2):=by
 unfold eY fN
 rw[if_pos hm,uH]
 simp only
 split<;>simp
theorem Fx(b:aG)(q:Int)(t s:ID)(p:aZ):(fN b q t s p).2.length≤1:=by
 unfold fN
 simp only
 split<;>simp
theorem CZ{nb:aG}{jZ:List bZ}(hi:eR nb)(ha:nb.aP=jZ){a:bZ}(hm:a∈jZ):dR nb a.id=a.dC:=by
 rw[fF,(nA hi.ra).2 ⟨by rw[ha];exact hm,rfl⟩];rfl
theorem l10(xc xd:Int)(p:aZ)(hp:bM p)(t:Bool)(jZ:List bZ)(ho:∀o∈jZ,bM o.pred)(hl:jZ.length≤100000)(tx tb tn:Nat) :
  ∀(rest:List bZ) (i:Nat) (nb:aG) (gZ:List iW) (es:List DV) (v:DV) (f:dK) (h:aA),jZ.drop i=rest→eR nb→ZL nb rest.length→nb.aP=jZ→qF es gZ→es.length+rest.length≤1000000 →
  f 2=bO p→f 3=.ptr 0 6 0 0→f 4=.ptr 1 2 0 0→f 6=.ptr 2 6 0 0→f 10=v→f 34=eL t 4 aH jZ→f 35=.int .i64 jZ.length→f 36=.int .i64 i →
  h.get 1=some (.arr tx 2 [.agg [.int .i64 xc,.int .i64 xd]] (some 1))→h.get 2=some (.arr tb 6 [zB] (some 1))→h.get 0=some (.arr tn 6 [aQ .none nb] (some 1))→OwnR 3 h v 54 8 es→h.lim=0→3≤h.n→WF h →
  gV (fin [.cell 6 (some 6),.t 7] (run D 62 [.block 0,.seq Qi] (.loop Ej) f h))=some (.tup [aQ .none (rest.foldl (eY ⟨xc,xd⟩ p) (nb,gZ)).1,eL false 8 jA (rest.foldl (eY ⟨xc,xd⟩ p) (nb,gZ)).2]):=by
 intro rest
 induction rest with
 | nil =>
  intro i nb gZ es v f h hd uK hz Tj hr Gw h2 h3 h4 h6 lJ hW hL hI g1 g2 gB hv aS hn wf
  have hi:=fY hd
  have:¬(i<jZ.length):=by omega
  have l2:2<h.n:=by omega
  have r1:=fun o=>Dr (hv.bA (o:=o) wf (by decide:2<3) l2) hr false (n:=199) (by decide)
  have hu:bE 199 (eL false 8 jA gZ)=true:=jH (fun y _=>(mP y).2) 199 (by decide)
  rw[aO Ej.eq_1]
  simp only[zB]at g2
  simp[Qi,hL,hI,this,h3,h6,lJ,gB,g2,aS,l2,wf,turn,aL,r1,hu]
 | cons o rest ih =>
  intro i nb gZ es v f h hd uK hz Tj hr Gw h2 h3 h4 h6 lJ hW hL hI g1 g2 gB hv aS hn wf
  obtain⟨hi,he,nJ⟩:=iI hd
  have OS:o∈jZ:=by rw[←he];exact List.getElem_mem hi
  have F8:=ho o OS
  have uH:=CZ uK Tj OS
  obtain⟨⟨oc,od⟩,op,oq⟩:=o
  simp only at F8 uH
  have hm:=s45 p op hp F8
  have Oj:=s46 nb oc od xc xd (-1) p uK hz.sized hp
  have nG:=uK.add (e:=⟨⟨oc,od⟩,⟨xc,xd⟩,p,-1,false⟩) (by simp[nQ]) hp
  have Ky:=hz.add ⟨⟨oc,od⟩,⟨xc,xd⟩,p,-1,false⟩
  have hadv1:=(wQ nb ⟨⟨oc,od⟩,⟨xc,xd⟩,p,-1,false⟩).2.1.trans Tj
  have Gs:=Fx nb (-1) ⟨oc,od⟩ ⟨xc,xd⟩ p
  obtain⟨m,oO⟩:∃ m,h.n=m+3:=⟨h.n-3,by omega⟩
  simp only[List.length_cons]at Gw
  rw[aO Ej.eq_1]
  simp only[List.foldl_cons]
  cases hq:vA p op with
  | false =>
   rw[hq]at hm
   have dD:eY ⟨xc,xd⟩ p (nb,gZ) ⟨⟨oc,od⟩,op,oq⟩=(nb,gZ):=by simp[eY,hq]
   rw[dD]
   simp[hL,hI,hW,hi,he,aH,h2,aS,wf,turn,e45,hm]
   rw[bC (by omega) (by omega)]
   generalize hF:upd _ 36 _=F
   refine ih (i+1) nb gZ es v F _ nJ uK (hz.less (by simp)) Tj hr (by omega) ?_ ?_ ?_ ?_ ?_ ?_ ?_ ?_ ?_ ?_ ?_ hv.push ?_ ?_ ?_
   all_goals first
    | (rw[←hF];simp[h2,h3,h4,h6,lJ,hW,hL];done)
    | (simp[oO,g1,g2,gB,aS,wf];done)
    | (simp[oO]<;>omega)
  | true =>
   rw[hq]at hm
   have dD:=BD (nb:=nb) (x:=⟨xc,xd⟩) (p:=p) (a:=⟨⟨oc,od⟩,op,oq⟩) gZ hq uH
   rw[dD]
   have hfst:(fN nb (-1) ⟨oc,od⟩ ⟨xc,xd⟩ p).1=(eS nb ⟨⟨oc,od⟩,⟨xc,xd⟩,p,-1,false⟩).1:=rfl
   rw[←hfst]at nG Ky hadv1
   simp only
   generalize (fN nb (-1) ⟨oc,od⟩ ⟨xc,xd⟩ p).1=b1 at *
   generalize (fN nb (-1) ⟨oc,od⟩ ⟨xc,xd⟩ p).2=o1 at *
   have hel1:∀H,elems H 8 (eL false 8 jA o1)=some (o1.map jA):=fun H=>jS ..
   cases hv with
   | nil hv hx =>
    subst hv
    subst hx
    simp[hL,hI,hW,hi,he,aH,h2,h3,h4,lJ,oO,g1,gB,aS,wf,turn,e45,hm,e46,Oj]
    generalize hA:bF _ _ _ _ _ _=A
    obtain⟨v',K,rfl,p',x',_⟩:=OwnR.append (lo:=3) (OwnR.start 3 _ 54 8) (by simp[wf]) (by simp[oO]<;>omega) (by simp[oO,aS]) hA (by simp<;>omega) (by decide)
    clear hA
    have a1:=x'.get 1 (by decide)
    have a2:=x'.get 2 (by decide)
    have aB:=x'.get 0 (by decide)
    have al:=x'.lim
    have an:=x'.le
    have l0:0<K.n:=by omega
    simp[oO,g1,g2,gB,aS,wf]at a1 a2 aB al p'
    simp[hI,h3,aB,al,l0,x'.wf,turn,aS]
    rw[bC (by omega) (by omega)]
    generalize hF:upd _ 36 _=F
    have zR:=qF.append hr (rY o1)
    have Td:=(p'.bA (o:=.arr tn 6 [aQ .none b1] (some 1)) x'.wf (by decide:0<3) l0).wl (Nat.zero_le 3)
    refine ih (i+1) b1 (gZ++o1) _ v' F _ nJ nG Ky hadv1 zR (by simp<;>omega) ?_ ?_ ?_ ?_ ?_ ?_ ?_ ?_ ?_ ?_ ?_ (by simpa using Td) ?_ ?_ ?_
    all_goals first
     | (rw[←hF];simp[h2,h3,h4,h6,lJ,hW,hL];done)
     | (simp[a1,a2,aB,al,l0,x'.wf];done)
     | (simp<;>omega)
   | arr iv sp cap hv hg Vn dM =>
    subst hv
    have hidn:=aI hg
    have q1:¬m+3+1=iv:=by omega
    simp[hL,hI,hW,hi,he,aH,h2,h3,h4,lJ,oO,g1,gB,aS,wf,turn,e45,hm,e46,Oj,q1]
    generalize hA:bF _ _ _ _ _ _=A
    obtain⟨v',K,rfl,p',x',_⟩:=OwnR.append (lo:=3) (OwnR.push (OwnR.push (.arr iv sp cap rfl hg Vn dM))) (by simp[wf]) (by simp[oO]<;>omega) (by simp[oO,aS]) hA (by simp<;>omega) (by decide)
    clear hA
    have a1:=x'.get 1 (by decide)
    have a2:=x'.get 2 (by decide)
    have aB:=x'.get 0 (by decide)
    have al:=x'.lim
    have an:=x'.le
    have l0:0<K.n:=by omega
    simp[oO,g1,g2,gB,aS,wf]at a1 a2 aB al
    simp[hI,h3,aB,al,l0,x'.wf,turn]
    rw[bC (by omega) (by omega)]
    generalize hF:upd _ 36 _=F
    have zR:=qF.append hr (rY o1)
    have Td:=p'.bA (o:=.arr tn 6 [aQ .none b1] (some 1)) x'.wf (by decide:0<3) l0
    refine ih (i+1) b1 (gZ++o1) _ v' F _ nJ nG Ky hadv1 zR (by simp<;>omega) ?_ ?_ ?_ ?_ ?_ ?_ ?_ ?_ ?_ ?_ ?_ Td ?_ ?_ ?_
    all_goals first
     | (rw[←hF];simp[h2,h3,h4,h6,lJ,hW,hL];done)
     | (simp[a1,a2,aB,al,l0,x'.wf];done)
     | (simp<;>omega)
end Go.Dm.Tc
/-
What the program's routes compute,part 4: a bS of the broker's subscribes,with the row still written.
-/
namespace Go.Dm.Tc
theorem n10(xc xd:Int)(p:aZ)(hp:bM p)(t:Bool)(jZ:List bZ)(ho:∀o∈jZ,bM o.pred)(hl:jZ.length≤100000)(tx tb tn:Nat)(nb:aG)(uK:eR nb)(Tj:nb.aP=jZ)(iw:Nat) :
  ∀(rest:List bZ) (i:Nat) (f:dK) (h:aA),jZ.drop i=rest→ZL nb rest.length →
  f 2=bO p→f 3=.ptr 0 6 0 0→f 4=.ptr 1 2 0 0→f 6=.ptr 2 6 0 0→f 10=.nsl→f 34=eL t 4 aH jZ→f 35=.int .i64 jZ.length→f 36=.int .i64 i →
  h.get 1=some (.arr tx 2 [.agg [.int .i64 xc,.int .i64 xd]] (some 1))→h.get 2=some (.arr tb 6 [zB] (some 1)) →
  h.get 0=some (.arr tn 6 [.agg [.int .i64 nb.me,eL false 1 fJ nb.bJ,eL false 4 aH nb.aP,eL false 2 eID nb.seen,eL false 7 aD nb.entries,.sl iw 3 0 nb.cW.length]] (some 1))→kA 3 h iw 102 3 (nb.cW.map bL)→h.lim=0→3≤h.n→WF h →
  gV (fin [.cell 6 (some 6),.t 7] (run D 62 [.block 0,.seq Qi] (.loop Ej) f h))=some (.tup [aQ .none (rest.foldl (eY ⟨xc,xd⟩ p) (nb,[])).1,eL false 8 jA (rest.foldl (eY ⟨xc,xd⟩ p) (nb,[])).2]):=by
 intro rest
 induction rest with
 | nil =>
  intro i f h hd hz h2 h3 h4 h6 lJ hW hL hI g1 g2 gB hv aS hn wf
  have hi:=fY hd
  have:¬(i<jZ.length):=by omega
  have l2:2<h.n:=by omega
  have r1:∀o,resolve false (h.set 2 o) 198 (.sl iw 3 0 nb.cW.length)=some (eL false 3 bL nb.cW):=fun o=>by
   have:=(hv.bA (o:=o) wf (by decide:2<3) l2).toR.resolve (n:=198) false (fun y _=>(pH y).1) (by decide)
   simpa using this
  rw[aO Ej.eq_1]
  simp only[zB]at g2
  simp[Qi,hL,hI,this,h3,h6,lJ,gB,g2,aS,l2,wf,turn,aL,r1]
  exact⟨rfl,rfl⟩
 | cons o rest ih =>
  intro i f h hd hz h2 h3 h4 h6 lJ hW hL hI g1 g2 gB hv aS hn wf
  obtain⟨hi,he,nJ⟩:=iI hd
  have OS:o∈jZ:=by rw[←he];exact List.getElem_mem hi
  have F8:=ho o OS
  have uH:=CZ uK Tj OS
  obtain⟨⟨oc,od⟩,op,oq⟩:=o
  simp only at F8 uH
  have hm:=s45 p op hp F8
  have Oj:=s46 nb oc od xc xd (-1) p uK hz.sized hp
  have nG:=uK.add (e:=⟨⟨oc,od⟩,⟨xc,xd⟩,p,-1,false⟩) (by simp[nQ]) hp
  have Ky:=hz.add ⟨⟨oc,od⟩,⟨xc,xd⟩,p,-1,false⟩
  have hadv1:=(wQ nb ⟨⟨oc,od⟩,⟨xc,xd⟩,p,-1,false⟩).2.1.trans Tj
  have Gs:=Fx nb (-1) ⟨oc,od⟩ ⟨xc,xd⟩ p
  obtain⟨m,oO⟩:∃ m,h.n=m+3:=⟨h.n-3,by omega⟩
  have hil:=hv.lt
  have GP:=hv.lo
  have k0:¬iw=0:=by omega
  have k1:¬iw=1:=by omega
  have k2:¬iw=2:=by omega
  have k0':¬0=iw:=by omega
  have k1':¬1=iw:=by omega
  have k2':¬2=iw:=by omega
  have k3:¬iw=m+3:=by omega
  have k4:¬iw=m+3+1:=by omega
  have k5:iw<m+3:=by omega
  have k6:iw<m+3+1:=by omega
  have yP:∀o1,gI (h.push o1) (.sl iw 3 0 nb.cW.length)=some (eL false 3 bL nb.cW,(h.push o1).set iw .dead):=fun o1=>EU hv.push rfl
  have Z4:DV.agg [.int .i64 nb.me,eL false 1 fJ nb.bJ,eL false 4 aH nb.aP,eL false 2 eID nb.seen,eL false 7 aD nb.entries,eL false 3 bL nb.cW]=aQ .none nb:=rfl
  rw[aO Ej.eq_1]
  simp only[List.foldl_cons]
  cases hq:vA p op with
  | false =>
   rw[hq]at hm
   have dD:eY ⟨xc,xd⟩ p (nb,[]) ⟨⟨oc,od⟩,op,oq⟩=(nb,[]):=by simp[eY,hq]
   rw[dD]
   simp[hL,hI,hW,hi,he,aH,h2,aS,wf,turn,e45,hm]
   rw[bC (by omega) (by omega)]
   generalize hF:upd _ 36 _=F
   refine ih (i+1) F _ nJ (hz.less (by simp)) ?_ ?_ ?_ ?_ ?_ ?_ ?_ ?_ ?_ ?_ ?_ hv.push ?_ ?_ ?_
   all_goals first
    | (rw[←hF];simp[h2,h3,h4,h6,lJ,hW,hL];done)
    | (simp[oO,g1,g2,gB,aS,wf];done)
    | (simp[oO]<;>omega)
  | true =>
   rw[hq]at hm
   have dD:=BD (nb:=nb) (x:=⟨xc,xd⟩) (p:=p) (a:=⟨⟨oc,od⟩,op,oq⟩) [] hq uH
   rw[dD]
   have hfst:(fN nb (-1) ⟨oc,od⟩ ⟨xc,xd⟩ p).1=(eS nb ⟨⟨oc,od⟩,⟨xc,xd⟩,p,-1,false⟩).1:=rfl
   rw[←hfst]at nG Ky hadv1
   simp only[List.nil_append]
   generalize (fN nb (-1) ⟨oc,od⟩ ⟨xc,xd⟩ p).1=b1 at *
   generalize (fN nb (-1) ⟨oc,od⟩ ⟨xc,xd⟩ p).2=o1 at *
   simp[hL,hI,hW,hi,he,aH,h2,h3,h4,lJ,oO,g1,gB,aS,wf,turn,e45,hm,e46,yP,Z4,Oj,k0,k1,k2,k0',k1',k2',k3,k4,k5,k6]
   generalize hA:bF _ _ _ _ _ _=A
   obtain⟨v',K,rfl,p',x',_⟩:=OwnR.append (lo:=3) (OwnR.start 3 _ 54 8) (by simp[wf,oO,k5,k6]) (by simp[oO]<;>omega) (by simp[oO,aS]) hA (by simp<;>omega) (by decide)
   clear hA
   have a1:=x'.get 1 (by decide)
   have a2:=x'.get 2 (by decide)
   have aB:=x'.get 0 (by decide)
   have al:=x'.lim
   have an:=x'.le
   have l0:0<K.n:=by omega
   simp[oO,g1,g2,gB,aS,wf,k0,k1,k2,k0',k1',k2',k3,k4,k5,k6]at a1 a2 aB al p'
   simp[hI,h3,aB,al,l0,x'.wf,turn,aS]
   rw[bC (by omega) (by omega)]
   generalize hF:upd _ 36 _=F
   have Td:=(p'.bA (o:=.arr tn 6 [aQ .none b1] (some 1)) x'.wf (by decide:0<3) l0).wl (Nat.zero_le 3)
   refine l10 xc xd p hp t jZ ho hl tx tb tn rest (i+1) b1 o1 _ v' F _ nJ nG Ky hadv1 (rY o1) (by have:=hz.ent;simp at this ⊢;omega) ?_ ?_ ?_ ?_ ?_ ?_ ?_ ?_ ?_ ?_ ?_ (by simpa using Td) ?_ ?_ ?_
   all_goals first
    | (rw[←hF];simp[h2,h3,h4,h6,lJ,hW,hL];done)
    | (simp[a1,a2,aB,al,l0,x'.wf];done)
    | (simp<;>omega)
theorem s10(b:aG)(xc xd:Int)(p:aZ)(hi:eR b)(hz:ZL b b.aP.length)(hp:bM p)(ho:b.cW.length<100000) :
  pcF D t10 [aQ .none b,.agg [.int .i64 xc,.int .i64 xd],bO p]=some (.tup [aQ .none (eV b ⟨xc,xd⟩ p).1,eL false 8 jA (eV b ⟨xc,xd⟩ p).2]):=by
 have fZ:=s42 .none b xc xd hi.ro (by omega)
 unfold pcF
 rw[aM _ _ _ _ (by simp[t10])]
 cases hh:eJ (fun o:gT=>cQ o.id ⟨xc,xd⟩) b.cW with
 | true =>
  rw[hh]at fZ
  have ha:eV b ⟨xc,xd⟩ p=(b,[]):=by simp only[eV,hh,if_true]
  rw[ha]
  simp[t10,e42,fZ,turn,aL,mZ]
 | false =>
  rw[hh]at fZ
  have ha:eV b ⟨xc,xd⟩ p=b.aP.foldl (eY ⟨xc,xd⟩ p) (subOwn b ⟨xc,xd⟩ p,[]):=by simp only[eV,hh];rfl
  rw[ha]
  have yO:=Oe hi.ro ⟨xc,xd⟩ hh
  have hinv:=hi.subOwn hp yO
  obtain⟨R,hR⟩:∃ R,R=DV.tup [aQ .none (b.aP.foldl (eY ⟨xc,xd⟩ p) (subOwn b ⟨xc,xd⟩ p,[])).1,eL false 8 jA (b.aP.foldl (eY ⟨xc,xd⟩ p) (subOwn b ⟨xc,xd⟩ p,[])).2]:=⟨_,rfl⟩
  rw[←hR]
  have hownl:b.cW.length≤1000000:=by omega
  simp[t10,e42,fZ,turn,e44]
  generalize hA:cH _ _ _ _ _=A
  obtain⟨v5,K,rfl,o5,x,_⟩:=pO (lo:=3) (jS ..) (by simp) (by simp) (by simp) (by simp;omega) (by decide) hA
  clear hA
  have a0:=x.get 0 (by decide)
  have a1:=x.get 1 (by decide)
  have a2:=x.get 2 (by decide)
  have q0:=x.lim
  have w0:=x.wf
  have n0:=x.le
  simp at a0 a1 a2 q0
  have nn0:¬0=K.n:=by omega
  have nn1:¬1=K.n:=by omega
  have nn2:¬2=K.n:=by omega
  have z1:∀o,((K.push o).lim)=K.lim:=fun o=>rfl
  simp[a0,a1,a2,q0,w0,turn]
  generalize hA:fc D _ _ _=A
  obtain⟨v5',K2,rfl,p5,x2,_⟩:=q43 hA 3 b.cW ⟨⟨xc,xd⟩,p⟩ (vety:=102) (c:=1) (o5.push.wl (Nat.zero_le 3)) (by simp[bL]) (hG _ _) hownl (by simp[w0]) (by simp;omega) (by simp)
  clear hA
  have b0:=x2.get 0 (by decide)
  have b1:=x2.get 1 (by decide)
  have b2:=x2.get 2 (by decide)
  have q2:=x2.lim
  have w2:=x2.wf
  have n2:=x2.le
  simp[a0,a1,a2,q0,w0,nn0,nn1,nn2]at b0 b1 b2 q2
  have hins:b.cW.take (bG (fun a:gT=>cQ a.id ⟨xc,xd⟩) b.cW)++⟨⟨xc,xd⟩,p⟩::b.cW.drop (bG (fun a:gT=>cQ a.id ⟨xc,xd⟩) b.cW)=(subOwn b ⟨xc,xd⟩ p).cW:=rfl
  rw[hins]at p5
  have cB:(subOwn b ⟨xc,xd⟩ p).cW.length=b.cW.length+1:=Bi ..
  have hlen0:(subOwn b ⟨xc,xd⟩ p).cW≠[]:=fun e=>by rw[e]at cB;simp at cB
  cases p5 with
  | nil hv hx=>exact absurd (List.map_eq_nil_iff.1 hx) hlen0
  | arr iw hv hg Vn dM =>
   subst hv
   rw[List.length_map]
   have hbu:aQ .none b=DV.agg [.int .i64 b.me,eL false 1 fJ b.bJ,eL false 4 aH b.aP,eL false 2 eID b.seen,eL false 7 aD b.entries,eL false 3 bL b.cW]:=rfl
   rw[hbu]at b0
   have l0:0<K2.n:=by omega
   simp[b0,b1,b2,q2,w2,l0,turn]
   generalize hF2:upd _ 36 _=F2
   rw[hR]
   have JZ:ZL (subOwn b ⟨xc,xd⟩ p) b.aP.length:=⟨hz.bJ,hz.adv,hz.seen,by rw[cB];omega,hz.ent⟩
   have ho2:kA 3 K2 iw 102 3 ((subOwn b ⟨xc,xd⟩ p).cW.map bL):=⟨⟨[],none,by simpa using hg⟩,Vn,dM⟩
   refine n10 xc xd p hp false b.aP hi.pa hz.adv 24 31 31 (subOwn b ⟨xc,xd⟩ p) (hi.subOwn hp yO) rfl iw b.aP 0 F2 _ rfl JZ ?_ ?_ ?_ ?_ ?_ ?_ ?_ ?_ ?_ ?_ ?_ (ho2.bA w2 (by decide) l0) ?_ ?_ ?_
   all_goals first
    | (rw[←hF2];simp;done)
    | (simp[b1,b2,q2,w2,l0,zB];done)
    | (simp[w2,l0,subOwn];done)
    | (simp[w2,l0];rfl)
    | (simp;omega)
end Go.Dm.Tc
/-
What the program's routes compute,part 5: a bS of the broker's ends a subscription.
-/
namespace Go.Dm.Tc
theorem l11(xc xd:Int)(t:Bool)(jZ:List bZ)(hl:jZ.length≤1000)(tx tb tn:Nat) :
  ∀(rest:List bZ) (i:Nat) (nb:aG) (gZ:List iW) (es:List DV) (v:DV) (f:dK) (h:aA),jZ.drop i=rest→eR nb→ZL nb 0→qF es gZ→es.length≤i*100001 →
  f 2=.ptr 0 6 0 0→f 3=.ptr 1 2 0 0→f 4=.ptr 2 6 0 0→f 8=v→f 31=eL t 4 aH jZ→f 32=.int .i64 jZ.length→f 33=.int .i64 i →
  h.get 1=some (.arr tx 2 [.agg [.int .i64 xc,.int .i64 xd]] (some 1))→h.get 2=some (.arr tb 6 [zB] (some 1))→h.get 0=some (.arr tn 6 [aQ .none nb] (some 1))→OwnR 3 h v 54 8 es→h.lim=0→3≤h.n→WF h →
  gV (fin [.cell 4 (some 6),.t 5] (run D 52 [.block 0,.seq Qh] (.loop Ei) f h))=some (.tup [aQ .none (rest.foldl (jX ⟨xc,xd⟩) (nb,gZ)).1,eL false 8 jA (rest.foldl (jX ⟨xc,xd⟩) (nb,gZ)).2]):=by
 intro rest
 induction rest with
 | nil =>
  intro i nb gZ es v f h hd uK hz hr Gw h2 h3 h4 h8 hW hL hI g1 g2 gB hv aS hn wf
  have hi:=fY hd
  have:¬(i<jZ.length):=by omega
  have l2:2<h.n:=by omega
  have r1:=fun o=>Dr (hv.bA (o:=o) wf (by decide:2<3) l2) hr false (n:=199) (by decide)
  have hu:bE 199 (eL false 8 jA gZ)=true:=jH (fun y _=>(mP y).2) 199 (by decide)
  rw[aO Ei.eq_1]
  simp only[zB]at g2
  simp[Qh,hL,hI,this,h2,h4,h8,gB,g2,aS,l2,wf,turn,aL,r1,hu]
 | cons o rest ih =>
  intro i nb gZ es v f h hd uK hz hr Gw h2 h3 h4 h8 hW hL hI g1 g2 gB hv aS hn wf
  obtain⟨hi,he,nJ⟩:=iI hd
  obtain⟨⟨oc,od⟩,op,oq⟩:=o
  have OZ:=s48 nb oc od xc xd (-1) uK hz.sized
  have nG:eR (dW nb ⟨oc,od⟩ ⟨xc,xd⟩ (-1)).1:=by rw[sM];exact uK.take ..
  have Ky:ZL (dW nb ⟨oc,od⟩ ⟨xc,xd⟩ (-1)).1 0:=by rw[sM];exact hz.take uK ..
  have KR:=Ag uK ⟨oc,od⟩ ⟨xc,xd⟩ (-1)
  have jG:=hz.ent
  obtain⟨m,oO⟩:∃ m,h.n=m+3:=⟨h.n-3,by omega⟩
  rw[aO Ei.eq_1]
  simp only[List.foldl_cons]
  have dD:jX ⟨xc,xd⟩ (nb,gZ) ⟨⟨oc,od⟩,op,oq⟩=((dW nb ⟨oc,od⟩ ⟨xc,xd⟩ (-1)).1,gZ++(dW nb ⟨oc,od⟩ ⟨xc,xd⟩ (-1)).2):=rfl
  rw[dD]
  generalize hB1:(dW nb ⟨oc,od⟩ ⟨xc,xd⟩ (-1)).1=b1 at *
  generalize hO1:(dW nb ⟨oc,od⟩ ⟨xc,xd⟩ (-1)).2=o1 at *
  have hi1000:i*100001≤1000*100001:=Nat.mul_le_mul_right _ (by omega)
  have zR:=qF.append hr (rY o1)
  cases hv with
  | nil hv hx =>
   subst hv
   subst hx
   simp[hL,hI,hW,hi,he,aH,h2,h3,h8,oO,g1,gB,aS,wf,turn,e48,OZ]
   generalize hA:bF _ _ _ _ _ _=A
   obtain⟨v',K,rfl,p',x',_⟩:=OwnR.append (lo:=3) (OwnR.start 3 _ 54 8) (by simp[wf]) (by simp[oO]<;>omega) (by simp[oO,aS]) hA (by simp<;>omega) (by decide)
   clear hA
   have a1:=x'.get 1 (by decide)
   have a2:=x'.get 2 (by decide)
   have aB:=x'.get 0 (by decide)
   have al:=x'.lim
   have an:=x'.le
   have l0:0<K.n:=by omega
   simp[oO,g1,g2,gB,aS,wf]at a1 a2 aB al p'
   simp[hI,h2,aB,al,l0,x'.wf,turn,aS]
   rw[bC (by omega) (by omega)]
   generalize hF:upd _ 33 _=F
   have Td:=(p'.bA (o:=.arr tn 6 [aQ .none b1] (some 1)) x'.wf (by decide:0<3) l0).wl (Nat.zero_le 3)
   refine ih (i+1) b1 (gZ++o1) _ v' F _ nJ nG Ky zR (by simp[Nat.add_mul];omega) ?_ ?_ ?_ ?_ ?_ ?_ ?_ ?_ ?_ ?_ (by simpa using Td) ?_ ?_ ?_
   all_goals first
    | (rw[←hF];simp[h2,h3,h4,h8,hW,hL];done)
    | (simp[a1,a2,aB,al,l0,x'.wf];done)
    | (simp<;>omega)
  | arr iv sp cap hv hg Vn dM =>
   subst hv
   have hidn:=aI hg
   have q1:¬m+3+1=iv:=by omega
   simp[hL,hI,hW,hi,he,aH,h2,h3,h8,oO,g1,gB,aS,wf,turn,e48,OZ,q1]
   generalize hA:bF _ _ _ _ _ _=A
   obtain⟨v',K,rfl,p',x',_⟩:=OwnR.append (lo:=3) (OwnR.push (OwnR.push (.arr iv sp cap rfl hg Vn dM))) (by simp[wf]) (by simp[oO]<;>omega) (by simp[oO,aS]) hA (by simp<;>omega) (by decide)
   clear hA
   have a1:=x'.get 1 (by decide)
   have a2:=x'.get 2 (by decide)
   have aB:=x'.get 0 (by decide)
   have al:=x'.lim
   have an:=x'.le
   have l0:0<K.n:=by omega
   simp[oO,g1,g2,gB,aS,wf]at a1 a2 aB al
   simp[hI,h2,aB,al,l0,x'.wf,turn]
   rw[bC (by omega) (by omega)]
   generalize hF:upd _ 33 _=F
   have Td:=p'.bA (o:=.arr tn 6 [aQ .none b1] (some 1)) x'.wf (by decide:0<3) l0
   refine ih (i+1) b1 (gZ++o1) _ v' F _ nJ nG Ky zR (by simp[Nat.add_mul];omega) ?_ ?_ ?_ ?_ ?_ ?_ ?_ ?_ ?_ ?_ Td ?_ ?_ ?_
   all_goals first
    | (rw[←hF];simp[h2,h3,h4,h8,hW,hL];done)
    | (simp[a1,a2,aB,al,l0,x'.wf];done)
    | (simp<;>omega)
theorem r11(xc xd:Int)(t:Bool)(jZ:List bZ)(hl:jZ.length≤1000)(tx tb tn:Nat)(nb:aG)(uK:eR nb)(hz:ZL nb 0)(w:DV)(f:dK)(h:aA)
  (h2:f 2=.ptr 0 6 0 0) (h3:f 3=.ptr 1 2 0 0) (h4:f 4=.ptr 2 6 0 0) (h8:f 8=.nsl) (hW:f 31=eL t 4 aH jZ) (hL:f 32=.int .i64 jZ.length) (hI:f 33=.int .i64 0)
  (g1:h.get 1=some (.arr tx 2 [.agg [.int .i64 xc,.int .i64 xd]] (some 1))) (g2:h.get 2=some (.arr tb 6 [zB] (some 1))) (gB:h.get 0=some (.arr tn 6 [.agg [.int .i64 nb.me,eL false 1 fJ nb.bJ,eL false 4 aH nb.aP,eL false 2 eID nb.seen,eL false 7 aD nb.entries,w]] (some 1)))
  (hv:OwnR 3 h w 102 3 (nb.cW.map bL)) (aS:h.lim=0) (hn:3≤h.n) (wf:WF h) :
  gV (fin [.cell 4 (some 6),.t 5] (run D 52 [.block 0,.seq Qh] (.loop Ei) f h))=some (.tup [aQ .none (jZ.foldl (jX ⟨xc,xd⟩) (nb,[])).1,eL false 8 jA (jZ.foldl (jX ⟨xc,xd⟩) (nb,[])).2]):=by
 cases jZ with
 | nil =>
  have l2:2<h.n:=by omega
  have r1:∀o,resolve false (h.set 2 o) 198 w=some (eL false 3 bL nb.cW):=fun o=>(hv.bA (o:=o) wf (by decide:2<3) l2).resolve (n:=198) false (fun y _=>(pH y).1) (by decide)
  rw[aO Ei.eq_1]
  simp only[zB]at g2
  simp only[List.length_nil]at hL
  simp[Qh,hL,hI,h2,h4,h8,gB,g2,aS,l2,wf,turn,aL,r1]
  exact⟨rfl,rfl⟩
 | cons o rest =>
  have hi:0<(o::rest).length:=by simp
  obtain⟨⟨oc,od⟩,op,oq⟩:=o
  have OZ:=s48 nb oc od xc xd (-1) uK hz.sized
  have nG:eR (dW nb ⟨oc,od⟩ ⟨xc,xd⟩ (-1)).1:=by rw[sM];exact uK.take ..
  have Ky:ZL (dW nb ⟨oc,od⟩ ⟨xc,xd⟩ (-1)).1 0:=by rw[sM];exact hz.take uK ..
  have KR:=Ag uK ⟨oc,od⟩ ⟨xc,xd⟩ (-1)
  have jG:=hz.ent
  obtain⟨m,oO⟩:∃ m,h.n=m+3:=⟨h.n-3,by omega⟩
  rw[aO Ei.eq_1]
  simp only[List.foldl_cons]
  have dD:jX ⟨xc,xd⟩ (nb,[]) ⟨⟨oc,od⟩,op,oq⟩=((dW nb ⟨oc,od⟩ ⟨xc,xd⟩ (-1)).1,(dW nb ⟨oc,od⟩ ⟨xc,xd⟩ (-1)).2):=by simp[jX]
  rw[dD]
  generalize hB1:(dW nb ⟨oc,od⟩ ⟨xc,xd⟩ (-1)).1=b1 at *
  generalize hO1:(dW nb ⟨oc,od⟩ ⟨xc,xd⟩ (-1)).2=o1 at *
  simp only[List.length_cons]at hL
  cases hv with
  | nil hv hx =>
   subst hv
   have Z4:DV.agg [.int .i64 nb.me,eL false 1 fJ nb.bJ,eL false 4 aH nb.aP,eL false 2 eID nb.seen,eL false 7 aD nb.entries,.isl false 0 []]=aQ .none nb:=by
    have:nb.cW=[]:=by simpa using hx
    unfold aQ
    rw[this];rfl
   simp[hL,hI,hW,aH,h2,h3,h8,oO,g1,gB,aS,wf,turn,e48,Z4,OZ]
   generalize hA:bF _ _ _ _ _ _=A
   obtain⟨v',K,rfl,p',x',_⟩:=OwnR.append (lo:=3) (OwnR.start 3 _ 54 8) (by simp[wf]) (by simp[oO]<;>omega) (by simp[oO,aS]) hA (by simp<;>omega) (by decide)
   clear hA
   have a1:=x'.get 1 (by decide)
   have a2:=x'.get 2 (by decide)
   have aB:=x'.get 0 (by decide)
   have al:=x'.lim
   have an:=x'.le
   have l0:0<K.n:=by omega
   simp[oO,g1,g2,gB,aS,wf]at a1 a2 aB al p'
   simp[hI,h2,aB,al,l0,x'.wf,turn,aS]
   generalize hF:upd _ 33 _=F
   have Td:=(p'.bA (o:=.arr tn 6 [aQ .none b1] (some 1)) x'.wf (by decide:0<3) l0).wl (Nat.zero_le 3)
   refine l11 xc xd t (⟨⟨oc,od⟩,op,oq⟩::rest) hl tx tb tn rest 1 b1 o1 _ v' F _ rfl nG Ky (rY o1) (by simp;omega) ?_ ?_ ?_ ?_ ?_ ?_ ?_ ?_ ?_ ?_ (by simpa using Td) ?_ ?_ ?_
   all_goals first
    | (rw[←hF];simp[h2,h3,h4,h8,hW,hL];done)
    | (simp[a1,a2,aB,al,l0,x'.wf];done)
    | (simp<;>omega)
  | arr iw sp cap hv hg Vn dM =>
   have ho:kA 3 h iw 102 3 (nb.cW.map bL):=⟨⟨sp,cap,hg⟩,Vn,dM⟩
   have hil:=ho.lt
   subst hv
   simp only[List.length_map]at gB
   have k0:¬iw=0:=by omega
   have k1:¬iw=1:=by omega
   have k2:¬iw=2:=by omega
   have k0':¬0=iw:=by omega
   have k1':¬1=iw:=by omega
   have k2':¬2=iw:=by omega
   have k3:¬iw=m+3:=by omega
   have k4:¬iw=m+3+1:=by omega
   have k5:iw<m+3:=by omega
   have k6:iw<m+3+1:=by omega
   have yP:∀p1,gI (h.push p1) (.sl iw 3 0 nb.cW.length)=some (eL false 3 bL nb.cW,(h.push p1).set iw .dead):=fun p1=>EU ho.push rfl
   have Z4:DV.agg [.int .i64 nb.me,eL false 1 fJ nb.bJ,eL false 4 aH nb.aP,eL false 2 eID nb.seen,eL false 7 aD nb.entries,eL false 3 bL nb.cW]=aQ .none nb:=rfl
   simp[hL,hI,hW,aH,h2,h3,h8,oO,g1,gB,aS,wf,turn,e48,Z4,OZ,yP,k0,k1,k2,k0',k1',k2',k3,k4,k5,k6]
   generalize hA:bF _ _ _ _ _ _=A
   obtain⟨v',K,rfl,p',x',_⟩:=OwnR.append (lo:=3) (OwnR.start 3 _ 54 8) (by simp[wf,oO,k5,k6]) (by simp[oO]<;>omega) (by simp[oO,aS]) hA (by simp<;>omega) (by decide)
   clear hA
   have a1:=x'.get 1 (by decide)
   have a2:=x'.get 2 (by decide)
   have aB:=x'.get 0 (by decide)
   have al:=x'.lim
   have an:=x'.le
   have l0:0<K.n:=by omega
   simp[oO,g1,g2,gB,aS,wf,k0,k1,k2,k0',k1',k2',k3,k4,k5,k6]at a1 a2 aB al p'
   simp[hI,h2,aB,al,l0,x'.wf,turn,aS]
   generalize hF:upd _ 33 _=F
   have Td:=(p'.bA (o:=.arr tn 6 [aQ .none b1] (some 1)) x'.wf (by decide:0<3) l0).wl (Nat.zero_le 3)
   refine l11 xc xd t (⟨⟨oc,od⟩,op,oq⟩::rest) hl tx tb tn rest 1 b1 o1 _ v' F _ rfl nG Ky (rY o1) (by simp;omega) ?_ ?_ ?_ ?_ ?_ ?_ ?_ ?_ ?_ ?_ (by simpa using Td) ?_ ?_ ?_
   all_goals first
    | (rw[←hF];simp[h2,h3,h4,h8,hW,hL];done)
    | (simp[a1,a2,aB,al,l0,x'.wf];done)
    | (simp<;>omega)
end Go.Dm.Tc
/-
What the program's routes compute,part 6: a bS of the broker's ends a subscription,all of it.
-/
namespace Go.Dm.Tc
theorem s11(b:aG)(xc xd:Int)(hi:eR b)(hz:ZL b 0)(ha:b.aP.length≤1000) :
  pcF D t11 [aQ .none b,.agg [.int .i64 xc,.int .i64 xd]]=some (.tup [aQ .none (eU b ⟨xc,xd⟩).1,eL false 8 jA (eU b ⟨xc,xd⟩).2]):=by
 have hol:b.cW.length≤100000:=hz.own
 have fZ:=s42 .none b xc xd hi.ro (by omega)
 have hf:=zY (fun a:gT=>a.id) hi.ro ⟨xc,xd⟩
 unfold pcF
 rw[aM _ _ _ _ (by simp[t11])]
 cases hq:b.cW.find? (fun a=>decide (a.id=⟨xc,xd⟩))with
 | none =>
  rw[hq]at hf
  simp only at hf
  rw[hf]at fZ
  have hw:sW (fun o:gT=>o.id) ⟨xc,xd⟩ b.cW=b.cW:=by
   unfold sW
   rw[List.filter_eq_self]
   intro o ho
   have:=(rJ (fun a:gT=>a.id) ⟨xc,xd⟩).1 hq o ho
   simp[this]
  have hu:eU b ⟨xc,xd⟩=(b,[]):=by simp only[eU,hw,if_true]
  rw[hu]
  simp[t11,e42,fZ,turn,aL,mZ]
 | some o =>
  rw[hq]at hf
  simp only at hf
  obtain⟨hf1,hf2⟩:=hf
  rw[hf1]at fZ
  have hox:o.id=⟨xc,xd⟩:=by simpa using List.find?_some hq
  obtain⟨i,Yz⟩:∃ i,bG (fun b:gT=>cQ b.id ⟨xc,xd⟩) b.cW=i:=⟨_,rfl⟩
  rw[Yz]at hf2 fZ
  have hilt:i<b.cW.length:=by
   by_cases h:i<b.cW.length
   ·exact h
   ·rw[List.getElem?_eq_none (by omega)]at hf2;cases hf2
  have hwo:=Vq (fun a:gT=>a.id) hi.ro hf2 hox
  have hwl:¬(sW (fun o:gT=>o.id) ⟨xc,xd⟩ b.cW).length=b.cW.length:=by
   rw[←hwo,List.length_append,List.length_take,List.length_drop];omega
  have hu:eU b ⟨xc,xd⟩=b.aP.foldl (jX ⟨xc,xd⟩) (endOwn b ⟨xc,xd⟩,[]):=by simp only[eU,if_neg hwl]
  rw[hu]
  obtain⟨R,hR⟩:∃ R,R=DV.tup [aQ .none (b.aP.foldl (jX ⟨xc,xd⟩) (endOwn b ⟨xc,xd⟩,[])).1,eL false 8 jA (b.aP.foldl (jX ⟨xc,xd⟩) (endOwn b ⟨xc,xd⟩,[])).2]:=⟨_,rfl⟩
  rw[←hR]
  have hw:IntKind.i64.wrap ((i:Int)+1)=(i:Int)+1:=bC (by omega) (by omega)
  simp[t11,e42,fZ,turn,e44]
  generalize hA:cH _ _ _ _ _=A
  obtain⟨v5,K,rfl,o5,x,_⟩:=pO (lo:=3) (jS ..) (by simp) (by simp) (by simp) (by simp;omega) (by decide) hA
  clear hA
  have a0:=x.get 0 (by decide)
  have a1:=x.get 1 (by decide)
  have a2:=x.get 2 (by decide)
  have q0:=x.lim
  have w0:=x.wf
  have n0:=x.le
  simp at a0 a1 a2 q0
  obtain⟨v5',K2,hD,p5,x2,_⟩:=s47 3 K v5 b.cW i o5 hilt (by omega) w0 n0
  rw[hwo]at p5
  have b0:=x2.get 0 (by decide)
  have b1:=x2.get 1 (by decide)
  have b2:=x2.get 2 (by decide)
  have q2:=x2.lim
  have w2:=x2.wf
  have n2:=x2.le
  rw[a0]at b0
  rw[a1]at b1
  rw[a2]at b2
  rw[q0]at q2
  have hbu:aQ .none b=DV.agg [.int .i64 b.me,eL false 1 fJ b.bJ,eL false 4 aH b.aP,eL false 2 eID b.seen,eL false 7 aD b.entries,eL false 3 bL b.cW]:=rfl
  rw[hbu]at b0
  have l0:0<K2.n:=by omega
  simp[hw,hD,b0,b1,b2,q2,w2,l0,turn,p5.aU,p5.aF]
  generalize hF2:upd _ 33 _=F2
  rw[hR]
  refine r11 xc xd false b.aP ha 24 31 31 (endOwn b ⟨xc,xd⟩) (hi.endOwn _) (hz.endOwn _) v5' F2 _ ?_ ?_ ?_ ?_ ?_ ?_ ?_ ?_ ?_ ?_ (p5.bA w2 (by decide) l0) ?_ ?_ ?_
  all_goals first
   | (rw[←hF2];simp;done)
   | (simp[b1,b2,q2,w2,l0,zB];done)
   | (simp[w2,l0,endOwn];done)
   | (simp;omega)
end Go.Dm.Tc
/-
TreesTells: the plain law: a path is the same with more room;linked is linked both ways round.
-/
namespace Go.Dm.Tc
theorem Fz:∀{n:Nat} {l:List Int},l.Nodup→(∀x∈l,0≤x∧x<n)→l.length≤n
 | 0,[],_,_=>Nat.le_refl _
 | 0,a::l,_,h=>by have:=h a (List.mem_cons_self ..);omega
 | n+1,l,hd,h=>by
  have h1:(l.erase (n:Int)).length≤n:=Fz (hd.erase _) fun x hx=>by
   have hm:=(hd.mem_erase_iff).1 hx
   have:=h x hm.2
   have:=hm.1
   omega
  rw[List.length_erase]at h1
  split at h1<;>omega
def KZ(m:Int)(l:Int×Int):Bool:=decide (0≤l.1∧l.1<m∧0≤l.2∧l.2<m∧l.1≠l.2)
def To(m:Int)(L:List (Int×Int))(a b:Int):Bool:=L.any fun l=>KZ m l && (decide (l.1=a∧l.2=b) || decide (l.1=b∧l.2=a))
def vG(m:Int)(b:Int):List (Int×Int)→List Int
 | []=>[]
 | l::r=>if KZ m l then(if l.1=b then l.2::vG m b r else if l.2=b then l.1::vG m b r else vG m b r)else vG m b r
theorem Ku(m:Int)(a b:Int):∀L:List (Int×Int),(b∈vG m a L↔To m L a b=true)
 | []=>by simp[vG,To]
 | l::r=>by
  have ih:=Ku m a b r
  have hl:To m (l::r) a b=((KZ m l && (decide (l.1=a∧l.2=b) || decide (l.1=b∧l.2=a))) || To m r a b):=rfl
  rw[hl,vG]
  by_cases hm:KZ m l=true
  ·have cY:l.1≠l.2:=by have:=of_decide_eq_true hm;exact this.2.2.2.2
   rw[if_pos hm]
   by_cases h1:l.1=a
   ·rw[if_pos h1]
    have h2:¬(l.1=b∧l.2=a):=fun e=>cY (h1.trans e.2.symm)
    simp[hm,h1,ih]
    constructor
    ·rintro(rfl|h)
     ·exact .inl (.inl rfl)
     ·exact .inr h
    ·rintro((rfl|⟨e1,e2⟩)|h)
     ·exact .inl rfl
     ·exact absurd (h1.trans e2.symm) cY
     ·exact .inr h
   ·rw[if_neg h1]
    by_cases h2:l.2=a
    ·rw[if_pos h2]
     simp[hm,h1,h2,ih]
     exact⟨fun h=>h.imp Eq.symm id,fun h=>h.imp Eq.symm id⟩
    ·rw[if_neg h2]
     simp[hm,h1,h2,ih]
  ·rw[if_neg hm]
   simp[hm,ih]
end Go.Dm.Tc
/-
Graphs: whom a broker is bJ;are two linked.
-/
namespace Go.Dm.Tc
def MQ(l:Int×Int):DV:=.agg [.int .i64 l.1,.int .i64 l.2]
end Go.Dm.Tc
/-
A graph of numbers: right,seven brokers at most.
-/
namespace Go.Dm.Tc
def SD(l:Int×Int):ID:=⟨l.1,l.2⟩
structure uD(m:Int)(L:List (Int×Int)):Prop where
 rng:∀l∈L,0≤l.1∧l.1<m∧0≤l.2∧l.2<m∧l.1≠l.2
 nd:L.Pairwise fun x y=>x≠y∧x≠(y.2,y.1)
def RB(L:List (Int×Int))(a b:Int):List (Int×Int):=if a=b∨(a,b)∈L∨(b,a)∈L then L else L++[(a,b)]
theorem uD.nil(m:Int):uD m []:=⟨fun l h=>by simp at h,List.Pairwise.nil⟩
theorem uD.put{m:Int}{L:List (Int×Int)}(h:uD m L){a b:Int}(ha:0≤a∧a<m)(hb:0≤b∧b<m):uD m (RB L a b):=by
 unfold RB
 split
 ·exact h
 ·rename_i hn
  have h1:a≠b:=fun e=>hn (.inl e)
  have h2:(a,b) ∉ L:=fun e=>hn (.inr (.inl e))
  have h3:(b,a) ∉ L:=fun e=>hn (.inr (.inr e))
  refine⟨fun l hl=>?_,?_⟩
  ·rcases List.mem_append.1 hl with hl|hl
   ·exact h.rng l hl
   ·rw[List.mem_singleton]at hl;subst hl;exact⟨ha.1,ha.2,hb.1,hb.2,h1⟩
  ·rw[List.pairwise_append]
   refine⟨h.nd,List.pairwise_singleton _ _,fun x hx y hy=>?_⟩
   rw[List.mem_singleton]at hy;subst hy
   exact⟨fun e=>h2 (e ▸ hx),fun e=>h3 (e ▸ hx)⟩
theorem Bm{m a:Int}{L:List (Int×Int)}{x:Int}(h:x∈vG m a L):((a,x)∈L∨(x,a)∈L)∧0≤x∧x<m:=by
 rw[Ku]at h
 unfold To at h
 rw[List.any_eq_true]at h
 obtain⟨l,hl,h2⟩:=h
 obtain⟨u,v⟩:=l
 rw[Bool.and_eq_true,Bool.or_eq_true]at h2
 have hm:=of_decide_eq_true h2.1
 rcases h2.2 with h3|h3
 ·have:=of_decide_eq_true h3
  obtain⟨e1,e2⟩:=this
  simp only at e1 e2 hm
  subst e1;subst e2
  exact⟨.inl hl,hm.2.2.1,hm.2.2.2.1⟩
 ·have:=of_decide_eq_true h3
  obtain⟨e1,e2⟩:=this
  simp only at e1 e2 hm
  subst e1;subst e2
  exact⟨.inr hl,hm.1,hm.2.1⟩
theorem Co{m a:Int}:∀{L:List (Int×Int)},(L.Pairwise fun x y=>x≠y∧x≠(y.2,y.1))→(vG m a L).Nodup
 | [],_=>List.nodup_nil
 | (u,v)::r,h=>by
  rw[List.pairwise_cons]at h
  have ih:=Co (m:=m) (a:=a) h.2
  rw[vG]
  split
  ·split
   ·rename_i e
    simp only at e
    subst e
    rw[List.nodup_cons]
    refine⟨fun hm=>?_,ih⟩
    rcases(Bm hm).1 with h1|h1
    ·exact(h.1 _ h1).1 rfl
    ·exact(h.1 _ h1).2 rfl
   ·split
    ·rename_i e
     simp only at e
     subst e
     rw[List.nodup_cons]
     refine⟨fun hm=>?_,ih⟩
     rcases(Bm hm).1 with h1|h1
     ·exact(h.1 _ h1).2 rfl
     ·exact(h.1 _ h1).1 rfl
    ·exact ih
  ·exact ih
theorem uD.bJ{m:Int}{L:List (Int×Int)}(h:uD m L)(h0:0≤m)(h7:m≤12)(a:Int):(vG m a L).length≤12:=by
 have:=Fz (n:=m.toNat) (Co (m:=m) (a:=a) h.nd) fun x hx=>by have:=(Bm hx).2;omega
 omega
structure WM(x0 x1 x2:DV)(h:aA)(m:Int)(L:List (Int×Int)):Prop where
 g0:h.get 0=some (.arr 63 3 [.agg [x0,x1,x2]] (some 1))
 g1:h.get 1=some (.arr 66 2 [.agg [.int .i64 0,.nsl]] (some 1))
 g2:∃ v,h.get 2=some (.arr 66 2 [.agg [.int .i64 m,v]] (some 1))∧OwnR 5 h v 76 2 (L.map MQ)
 g3:h.get 3=some (.mp (TO (L.map SD)))
 g4:h.get 4=some (.arr 110 1 [.map 3] (some 1))
 lim:h.lim=0
 n:5≤h.n
 wf:WF h
end Go.Dm.Tc
/-
A graph of numbers: the function's walk.
-/
namespace Go.Dm.Tc
theorem Ke(n lo hi:Int)(h:lo≤hi):lo≤eE n lo hi∧eE n lo hi≤hi:=by
 have h1:0<hi-lo+1:=by omega
 have h2:=Int.tmod_lt_of_pos n h1
 have h3:=Int.lt_tmod_of_pos n h1
 unfold eE
 split<;>omega
structure WL where
 n:Int
 under:List Int
 more:List Int
end Go.Dm.Tc
/-
Networks,part 1: pairs looked for;maps by pairs;rows put together.
-/
namespace Go.Dm.Tc
def kID(x:ID):DV:=.agg [.int .i64 x.bS,.int .i64 x.seq]
def fP(ms:List (ID×DV)):List (DV×DV):=ms.map fun p=>(kID p.1,p.2)
def mG(ms:List (ID×DV))(x:ID):Option DV:=(ms.find? fun p=>decide (p.1=x)).map (·.2)
def uF(x:ID)(v:DV):List (ID×DV)→List (ID×DV)
 | []=>[(x,v)]
 | p::r=>if p.1=x then(x,v)::r else p::uF x v r
theorem nU(x y:ID):fO (.agg [1,1]) (kID x) (kID y)=some (decide (y=x)):=by
 have:=LH x.bS x.seq y
 rw[kID,kID,this]
 congr 1
 exact decide_eq_decide.2 ⟨fun h=>h.symm,fun h=>h.symm⟩
theorem Hf(x:ID):∀(ms:List (ID×DV)) (i:Nat),(mG ms x=none∧fG (.agg [1,1]) (kID x) (fP ms) i=some none∧∀w,fP (uF x w ms)=fP ms++[(kID x,w)]) ∨
  (∃ j v,mG ms x=some v∧fG (.agg [1,1]) (kID x) (fP ms) i=some (some (i+j,v))∧∀w,(fP ms).set j (kID x,w)=fP (uF x w ms)):=by
 intro ms
 induction ms with
 | nil=>intro i;exact .inl ⟨rfl,rfl,fun w=>rfl⟩
 | cons p r ih =>
  intro i
  obtain⟨y,u⟩:=p
  by_cases h:y=x
  ·subst h
   refine .inr ⟨0,u,by simp[mG],?_,fun w=>by simp[fP,uF]⟩
   simp only[fP,List.map_cons,fG]
   rw[nU,decide_eq_true rfl]
   rfl
  ·have hf:fG (.agg [1,1]) (kID x) (fP ((y,u)::r)) i=fG (.agg [1,1]) (kID x) (fP r) (i+1):=by
    simp only[fP,List.map_cons,fG]
    rw[nU,decide_eq_false h]
   have hg:mG ((y,u)::r) x=mG r x:=by simp[mG,h]
   rw[hf,hg]
   rcases ih (i+1)with⟨h1,h2,h3⟩|⟨j,v,h1,h2,h3⟩
   ·exact .inl ⟨h1,h2,fun w=>by
     have:=h3 w
     simp only[uF,if_neg h]
     simp only[fP,List.map_cons,List.cons_append]at this ⊢
     rw[this]⟩
   ·exact .inr ⟨j+1,v,h1,by rw[h2,show i+1+j=i+(j+1) by omega],fun w=>by
     have:=h3 w
     simp only[uF,if_neg h]
     simp only[fP,List.map_cons,List.set_cons_succ]at this ⊢
     rw[this]⟩
theorem Gv(x:ID):∀(ms:List (ID×DV)),(ms.map (·.1)).Nodup→sH (.agg [1,1]) (kID x) (fP ms)=some (if x∈ms.map (·.1)then 1 else 0):=by
 intro ms
 induction ms with
 | nil=>intro _;rfl
 | cons p r ih =>
  intro hn
  obtain⟨y,u⟩:=p
  simp only[List.map_cons,List.nodup_cons]at hn
  have:=ih hn.2
  simp only[fP,List.map_cons,sH]at this ⊢
  rw[nU,this]
  by_cases h:y=x
  ·subst h
   simp[hn.1]
  ·have h':¬x=y:=fun e=>h e.symm
   by_cases h2:x∈r.map (·.1)
   ·simp[h,h2]
   ·simp[h,h',h2]
theorem Gg{ms:List (ID×DV)}(hn:(ms.map (·.1)).Nodup)(z:DV)(ok:Bool)(x:ID):nF (.agg [1,1]) z ok (kID x) (some (fP ms))=some (match mG ms x with|some v=>if ok then .tup [v,.bool true]else v|none=>if ok then .tup [z,.bool false]else z):=by
 have he:(fO (.agg [1,1]) (kID x) (kID x)).isSome=true:=by rw[nU];rfl
 have hh:(if x∈ms.map (·.1)then 1 else 0)≤1:=by split<;>omega
 simp only[nF,he,if_true,lY,Gv x ms hn,if_pos hh]
 rcases Hf x ms 0 with⟨h1,h2,_⟩|⟨j,v,h1,h2,_⟩
 ·rw[h2,h1]
 ·rw[h2,h1]
theorem HD{h:aA}{id:Nat}{ms:List (ID×DV)}(hn:(ms.map (·.1)).Nodup)(hl:h.lim≤id)(x:ID)(v:DV):J8 h (.agg [1,1]) id (kID x) v (some (.mp (fP ms)))=some (h.set id (.mp (fP (uF x v ms)))):=by
 have he:(fO (.agg [1,1]) (kID x) (kID x)).isSome=true:=by rw[nU];rfl
 have hh:(if x∈ms.map (·.1)then 1 else 0)≤1:=by split<;>omega
 simp only[J8,he,hl,and_self,if_true,lY,Gv x ms hn,if_pos hh]
 rcases Hf x ms 0 with⟨_,h2,h3⟩|⟨j,u,_,h2,h3⟩
 ·rw[h2,h3]
 ·rw[h2]
  simp only[Nat.zero_add]
  rw[h3]
theorem EG(x:ID)(v:DV)(ms:List (ID×DV)):(uF x v ms).map (·.1)=if x∈ms.map (·.1)then ms.map (·.1)else ms.map (·.1)++[x]:=by
 induction ms with
 | nil=>rfl
 | cons p r ih =>
  obtain⟨y,u⟩:=p
  by_cases h:y=x
  ·subst h;simp[uF]
  ·have h':¬x=y:=fun e=>h e.symm
   simp only[uF,if_neg h,List.map_cons,ih,List.mem_cons,h',false_or]
   split<;>simp
theorem R1{x:ID}{v:DV}{ms:List (ID×DV)}(hn:(ms.map (·.1)).Nodup):((uF x v ms).map (·.1)).Nodup:=by
 rw[EG]
 split
 ·exact hn
 ·rename_i h
  exact List.nodup_append.2 ⟨hn,by simp,fun a ha b hb e=>h (by rw[List.mem_singleton.1 hb]at e;exact e ▸ ha)⟩
theorem KX(x y:ID)(v:DV)(ms:List (ID×DV)):mG (uF x v ms) y=if x=y then some v else mG ms y:=by
 induction ms with
 | nil =>
  by_cases h:x=y<;>simp[uF,mG,h]
 | cons p r ih =>
  obtain⟨z,u⟩:=p
  by_cases h:z=x
  ·subst h
   by_cases h2:z=y<;>simp[uF,mG,h2]
  ·simp only[uF,if_neg h]
   by_cases h2:z=y
   ·subst h2
    have:¬x=z:=fun e=>h e.symm
    simp[mG,this]
   ·have e1:∀l,mG ((z,u)::l) y=mG l y:=fun l=>by simp[mG,h2]
    rw[e1,e1];exact ih
def Do(v:DV)(l:List Msg):Prop:=(v=.nsl∧l=[])∨∃ sz,v=.isl false sz (l.map PL)∧(sz=7∨l=[])
theorem Do.res{v:DV}{l:List Msg}(r:Do v l)(tag:Bool)(h:aA)(n:Nat):resolve tag h (n+1) v=some (eL false 7 PL l):=by
 rcases r with⟨rfl,rfl⟩|⟨sz,rfl,hs⟩
 ·rfl
 ·cases l with
  | nil=>rfl
  | cons x r=>rcases hs with rfl|hs;rfl;cases hs
theorem Do.len{v:DV}{l:List Msg}(r:Do v l)(h:aA):lenV h 1 v=some (.int .i64 l.length):=by
 rcases r with⟨rfl,rfl⟩|⟨sz,rfl,hs⟩
 ·rfl
 ·simp[lenV]
theorem Do.one{v:DV}{l:List Msg}(r:Do v l):aU 1 v=true:=by
 rcases r with⟨rfl,rfl⟩|⟨sz,rfl,hs⟩<;>rfl
theorem Do.ec{v:DV}{l:List Msg}(r:Do v l):aF 1 v=[v]:=by
 rcases r with⟨rfl,rfl⟩|⟨sz,rfl,hs⟩<;>rfl
theorem Do.eL(l:List Msg):Do (eL false 7 PL l) l:=by
 cases l with
 | nil=>exact .inr ⟨0,rfl,.inr rfl⟩
 | cons x r=>exact .inr ⟨7,rfl,.inl rfl⟩
end Go.Dm.Tc
/-
Networks,part 2: rows of messages put together;queues as they lie;a message pushed.
-/
namespace Go.Dm.Tc
structure J0(ms:List (ID×DV))(W:ID→List Msg):Prop where
 nd:(ms.map (·.1)).Nodup
 row:∀x,Do ((mG ms x).getD .nsl) (W x)
def QU(W:ID→List Msg)(x:ID)(l:List Msg):ID→List Msg:=fun y=>if x=y then l else W y
theorem J0.put{ms:List (ID×DV)}{W:ID→List Msg}(r:J0 ms W)(x:ID){v:DV}{l:List Msg}(hv:Do v l):J0 (uF x v ms) (QU W x l):=by
 refine⟨R1 r.nd,fun y=>?_⟩
 rw[KX,QU]
 by_cases h:x=y
 ·rw[if_pos h,if_pos h];exact hv
 ·rw[if_neg h,if_neg h];exact r.row y
def qO(ways:List (Int×Int))(wid:Nat):DO:=.arr 179 2 [.agg [eL false 2 MQ ways,.map wid]] (some 1)
structure QAt(h:aA)(q wid:Nat)(ways:List (Int×Int))(W:ID→List Msg):Prop where
 gq:h.get q=some (qO ways wid)
 gw:∃ ms,h.get wid=some (.mp (fP ms))∧J0 ms W
 lw:h.lim≤wid
 lq:h.lim≤q
structure Upd(h h':aA)(F F':List Nat):Prop where
 n:h.n≤h'.n
 lim:h'.lim=h.lim
 wf:WF h'
 old:∀i,i<h.n→i ∉ F→h'.get i=h.get i
 fp:∀i∈F',i∈F∨h.n≤i
theorem Upd.refl{h:aA}(w:WF h)(F:List Nat):Upd h h F F:=⟨Nat.le_refl _,rfl,w,fun _ _ _=>rfl,fun _ hi=>.inl hi⟩
theorem Upd.trans{a b c : aA}{F G H : List Nat}(x : Upd a b F G)(y : Upd b c G H) : Upd a c F H :=
  ⟨Nat.le_trans x.n y.n, y.lim.trans x.lim, y.wf, fun i hi hn => (y.old i (Nat.lt_of_lt_of_le hi x.n) (fun hg => (x.fp i hg).elim hn (fun h => by omega))).trans (x.old i hi hn),
   fun i hi => (y.fp i hi).elim (fun hg => x.fp i hg) (fun h => .inr (Nat.le_trans x.n h))⟩
theorem Upd.push{a b:aA}{F G:List Nat}(x:Upd a b F G)(o:DO):Upd a (b.push o) F G :=
 ⟨Nat.le_succ_of_le x.n,x.lim,x.wf.push,fun i hi hn=>by rw[bP (Nat.lt_of_lt_of_le hi x.n)];exact x.old i hi hn,x.fp⟩
theorem Upd.set{a b:aA}{F G:List Nat}(x:Upd a b F G){i:Nat}{o:DO}(hi:i∈F∨a.n≤i)(hb:i<b.n):Upd a (b.set i o) F G :=
 ⟨x.n,x.lim,x.wf.set,fun j hj hn=>by rw[bD hb (fun e=>hi.elim (fun h=>hn (by rw[e];exact h)) (fun h=>by omega))];exact x.old j hj hn,x.fp⟩
theorem Upd.mono{a b:aA}{F G:List Nat}(x:Upd a b F F)(h:∀i∈F,i∈G):Upd a b G G :=
 ⟨x.n,x.lim,x.wf,fun i hi hn=>x.old i hi (fun hf=>hn (h i hf)),fun _ hi=>.inl hi⟩
theorem QAt.old{h h':aA}{q wid:Nat}{ways:List (Int×Int)}{W:ID→List Msg}(Q:QAt h q wid ways W)(hl:h'.lim=h.lim)(h1:h'.get q=h.get q)(h2:h'.get wid=h.get wid):QAt h' q wid ways W :=
 ⟨by rw[h1];exact Q.gq,by rw[h2];exact Q.gw,by rw[hl];exact Q.lw,by rw[hl];exact Q.lq⟩
end Go.Dm.Tc
/-
RouteAbove,the plain law: what was said upwards is what is up;all is covered by it.
-/
namespace Go.Dm.Tc
theorem xL(t:ID):∀(rest done kK:List aX),∃ r' u',eH t done rest kK=(done++r',kK++u')∧u'.Sublist r'∧∀x∈r',x.up=true→x∈rest∨x∈u'
 | [],done,kK=>⟨[],[],by simp[eH],List.Sublist.refl _,fun x hx=>by cases hx⟩
 | e::rest,done,kK=>by
  unfold eH
  split
  ·obtain⟨r',u',h1,h2,h3⟩:=xL t rest (done++[{e with up:=true}]) (kK++[{e with up:=true}])
   refine⟨{e with up:=true}::r',{e with up:=true}::u',by rw[h1];simp,h2.cons₂ _,fun x hx hu=>?_⟩
   rcases List.mem_cons.1 hx with rfl|hx
   ·exact .inr (List.mem_cons_self ..)
   ·rcases h3 x hx hu with h|h
    ·exact .inl (List.mem_cons_of_mem _ h)
    ·exact .inr (List.mem_cons_of_mem _ h)
  ·obtain⟨r',u',h1,h2,h3⟩:=xL t rest (done++[e]) kK
   refine⟨e::r',u',by rw[h1];simp,h2.cons _,fun x hx hu=>?_⟩
   rcases List.mem_cons.1 hx with rfl|hx
   ·exact .inl (List.mem_cons_self ..)
   ·rcases h3 x hx hu with h|h
    ·exact .inl (List.mem_cons_of_mem _ h)
    ·exact .inr h
structure vX(b:aG)(M:List (ID×aZ)):Prop where
 nd:(M.map (·.1)).Nodup
 mem:∀x p,(x,p)∈M↔∃ e∈b.entries,e.up=true∧e.sub=x∧e.pred=p
def Jg(x:ID)(p:aZ):List (ID×aZ)→List (ID×aZ)
 | []=>[(x,p)]
 | y::r=>if y.1=x then(x,p)::r else y::Jg x p r
def FN(x:ID)(M:List (ID×aZ)):List (ID×aZ):=M.filter fun y=>!decide (y.1=x)
def kL(M:List (ID×aZ))(o:iW):List (ID×aZ):=if o.kind=4 then FN o.id M else Jg o.id o.pred M
def iK(M:List (ID×aZ))(p:aZ):Bool:=M.any fun y=>iJ y.2 p
structure MV(t:ID)(b:aG)(M:List (ID×aZ))(o:iW):Prop where
 to:o.to=1
 tree:o.tree=t
 in_:o.id∈M.map (·.1)↔o.kind=4
 cov:o.kind=4→∀e∈ofT t b.entries,iK (kL M o) e.pred=true
inductive pZ(t:ID)(b:aG):List (ID×aZ)→List iW→Prop where
 | nil (M:List (ID×aZ)):pZ t b M []
 | cons {M:List (ID×aZ)} {o:iW} {r:List iW} (h:MV t b M o) (k:pZ t b (kL M o) r):pZ t b M (o::r)
theorem zI{x:ID}{p:aZ}:∀{M:List (ID×aZ)},x ∉ M.map (·.1)→Jg x p M=M++[(x,p)]
 | [],_=>rfl
 | y::r,h=>by
  simp only[List.map_cons,List.mem_cons,not_or]at h
  have cY:¬y.1=x:=fun e=>h.1 e.symm
  simp only[Jg,if_neg cY,zI h.2,List.cons_append]
theorem vX.key{b:aG}{M:List (ID×aZ)}(h:vX b M)(x:ID):x∈M.map (·.1)↔∃ e∈b.entries,e.up=true∧e.sub=x:=by
 rw[List.mem_map]
 constructor
 ·rintro⟨⟨y,p⟩,h1,rfl⟩
  obtain⟨e,h2,h3,h4,_⟩:=(h.mem y p).1 h1
  exact⟨e,h2,h3,h4⟩
 ·rintro⟨e,h1,h2,h3⟩
  exact⟨(x,e.pred),(h.mem x e.pred).2 ⟨e,h1,h2,h3,rfl⟩,rfl⟩
structure sP(t:ID)(b:aG):Prop where
 k:eR b
 adv:b.aP=[⟨t,[],1⟩]
theorem sP.advOf{t:ID}{b:aG}(h:sP t b):advOf b t=some ⟨t,[],1⟩:=by simp[Dm.Tc.advOf,h.adv]
theorem sP.par{t:ID}{b:aG}(h:sP t b):dR b t=1:=by rw[fF,h.advOf];rfl
theorem sP.tree{t:ID}{b:aG}(h:sP t b){e:aX}(he:e∈b.entries):e.tree=t:=by
 obtain⟨a,ha,_⟩:=fM.1 (h.k.ent e he)
 obtain⟨h1,h2⟩:=(nA h.k.ra).1 ha
 rw[h.adv]at h1
 simp only[List.mem_singleton]at h1
 rw[←h2,h1]
theorem sP.covered{t:ID}{b:aG}{M:List (ID×aZ)}(h:sP t b)(s:vX b M){e:aX}(he:e∈b.entries):iK M e.pred=true:=by
 unfold iK
 rw[List.any_eq_true]
 rcases jI.1 h.k.tight e he with h1|h1|h1
 ·exact⟨(e.sub,e.pred),(s.mem _ _).2 ⟨e,he,h1,rfl,rfl⟩,Um (h.k.pe e he)⟩
 ·rw[h.tree he,h.par]at h1;cases h1
 ·obtain⟨d,hd,_,h2,h3⟩:=mB.1 h1
  exact⟨(d.sub,d.pred),(s.mem _ _).2 ⟨d,hd,h2,rfl,rfl⟩,h3⟩
theorem sP.uniq{t:ID}{b:aG}(h:sP t b){d e:aX}(hd:d∈b.entries)(he:e∈b.entries)(hs:d.sub=e.sub):d=e :=
 Zo h.k.re hd he ((h.tree hd).trans (h.tree he).symm) hs
theorem vX.add{t:ID}{b:aG}{M:List (ID×aZ)}{e:aX}(h:sP t b)(s:vX b M)(het:e.tree=t)(hl:nQ b e.jW=true)(hp:bM e.pred) :
  sP t (eS b e).1∧pZ t (eS b e).1 M (if(eS b e).2=true then[⟨1,3,t,e.sub,e.pred⟩]else[])∧vX (eS b e).1 ((if(eS b e).2=true then[(⟨1,3,t,e.sub,e.pred⟩:iW)]else[]).foldl kL M):=by
 have hk:=h.k.add (e:=e) hl hp
 have hL:sP t (eS b e).1:=⟨hk,by rw[Ic];exact h.adv⟩
 refine⟨hL,?_⟩
 by_cases hm:mS b e=true
 ·have ha:eS b e=({b with entries:=zQ {e with up:=wT b e} b.entries},wT b e):=by unfold eS;rw[if_pos hm]
  obtain⟨_,_,yO,_⟩:=xW.1 hm
  cases hu:wT b e with
  | false =>
   rw[hu]at ha
   have h2:(eS b e).2=false:=by rw[ha]
   rw[h2]
   refine⟨.nil M,s.nd,fun x p=>?_⟩
   simp only[Bool.false_eq_true,if_false,List.foldl_nil]
   rw[s.mem,ha]
   constructor
   ·rintro⟨d,hd,h3⟩
    exact⟨d,kN.2 (.inr hd),h3⟩
   ·rintro⟨d,hd,h3,h4⟩
    rcases kN.1 hd with rfl|hd
    ·cases h3
    ·exact⟨d,hd,h3,h4⟩
  | true =>
   rw[hu]at ha
   have h2:(eS b e).2=true:=by rw[ha]
   rw[h2]
   have hn:e.sub ∉ M.map (·.1):=fun hm=>by
    obtain⟨d,hd,_,h3⟩:=(s.key e.sub).1 hm
    have:=yO d hd
    rw[F5]at this
    exact this ⟨(h.tree hd).trans het.symm,h3⟩
   have Te:kL M ⟨1,3,t,e.sub,e.pred⟩=M++[(e.sub,e.pred)]:=by
    have:¬((3:Int)=4):=by decide
    simp only[kL,this,if_false];exact zI hn
   have n34:¬((3:Int)=4):=by decide
   refine⟨.cons ⟨rfl,rfl,⟨fun hm=>absurd hm hn,fun h3=>absurd h3 n34⟩,fun h3=>absurd h3 n34⟩ (.nil _),?_⟩
   simp only[if_true,List.foldl_cons,List.foldl_nil]
   rw[Te]
   refine⟨?_,fun x p=>?_⟩
   ·rw[List.map_append]
    exact List.nodup_append.2 ⟨s.nd,by simp,fun a ha c hc e'=>by simp at hc;rw[hc]at e';exact hn (e' ▸ ha)⟩
   ·rw[List.mem_append,s.mem,ha]
    constructor
    ·rintro(⟨d,hd,h3⟩|h3)
     ·exact⟨d,kN.2 (.inr hd),h3⟩
     ·simp only[List.mem_singleton,Prod.mk.injEq]at h3
      exact⟨_,kN.2 (.inl rfl),rfl,h3.1.symm,h3.2.symm⟩
    ·rintro⟨d,hd,h3,h4⟩
     rcases kN.1 hd with rfl|hd
     ·right;simp only[List.mem_singleton,Prod.mk.injEq];exact⟨h4.1.symm,h4.2.symm⟩
     ·exact .inl ⟨d,hd,h3,h4⟩
 ·have ha:eS b e=(b,false):=by unfold eS;rw[if_neg hm]
  rw[ha]
  exact⟨.nil M,by simpa using s⟩
theorem pZ.append{t:ID}{b:aG}:∀{A C:List iW} {M:List (ID×aZ)},pZ t b M A→pZ t b (A.foldl kL M) C→pZ t b M (A++C)
 | [],_,_,_,k=>k
 | _::_,_,_,.cons h k,k2=>.cons h (pZ.append k k2)
theorem D6{t:ID}{b:aG}:∀(u:List aX) (M:List (ID×aZ)),(∀x∈u,x.tree=t)→(u.map (·.sub)).Nodup→(∀x∈u,x.sub ∉ M.map (·.1))→pZ t b M (kD 1 u)∧(kD 1 u).foldl kL M=M++u.map fun x=>(x.sub,x.pred)
 | [],M,_,_,_=>⟨.nil M,by simp[kD]⟩
 | x::u,M,h1,h2,h3=>by
  have n3:¬((3:Int)=4):=by decide
  have hx:=h3 x (List.mem_cons_self ..)
  have Te:kL M ⟨1,3,x.tree,x.sub,x.pred⟩=M++[(x.sub,x.pred)]:=by simp only[kL,n3,if_false];exact zI hx
  simp only[List.map_cons,List.nodup_cons]at h2
  obtain⟨k1,k2⟩:=D6 u (M++[(x.sub,x.pred)]) (fun y hy=>h1 y (List.mem_cons_of_mem _ hy)) h2.2 fun y hy hm=>by
   rw[List.map_append,List.mem_append]at hm
   rcases hm with hm|hm
   ·exact h3 y (List.mem_cons_of_mem _ hy) hm
   ·simp at hm
    exact h2.1 (List.mem_map.2 ⟨y,hy,hm⟩)
  refine⟨?_,?_⟩
  ·show pZ t b M (⟨1,3,x.tree,x.sub,x.pred⟩::kD 1 u)
   exact .cons ⟨rfl,h1 x (List.mem_cons_self ..),⟨fun hm=>absurd hm hx,fun h=>absurd h n3⟩,fun h=>absurd h n3⟩ (by rw[Te];exact k1)
  ·show(kD 1 u).foldl kL (kL M ⟨1,3,x.tree,x.sub,x.pred⟩)=_
   rw[Te,k2];simp
theorem vX.drop{t:ID}{b:aG}{M:List (ID×aZ)}(h:sP t b)(s:vX b M)(x:ID)(q:Int) :
  sP t (dW b t x q).1∧pZ t (dW b t x q).1 M (dW b t x q).2∧vX (dW b t x q).1 ((dW b t x q).2.foldl kL M):=by
 have hk:=h.k.take t x q
 have hb:(dW b t x q).1=(dO b t x q).1:=by unfold dW;split<;>rfl
 have hL:sP t (dW b t x q).1:=⟨by rw[hb];exact hk,by rw[hb,Au];exact h.adv⟩
 refine⟨hL,?_⟩
 rcases mN h.k t x q with⟨hc,_⟩|⟨e,he,hi,_,hu,hc⟩|⟨e,he,hi,hq,hu,r',u',hc,hR,htt,wM⟩
 ·have hd:dW b t x q=(b,[]):=by simp[dW,hc]
  rw[hd]
  exact⟨.nil M,s⟩
 ·have hd:dW b t x q=({b with entries:=b.entries.filter fun y=>!isE t x y},[]):=by simp[dW,hc]
  rw[hd]
  refine⟨.nil M,s.nd,fun y p=>?_⟩
  simp only[List.foldl_nil]
  rw[s.mem]
  constructor
  ·rintro⟨d,hd,h1,h2⟩
   refine⟨d,List.mem_filter.2 ⟨hd,?_⟩,h1,h2⟩
   cases eK:isE t x d with
   | false=>rfl
   | true =>
    have:=h.uniq hd he ((wL.1 eK).2.trans (wL.1 hi).2.symm)
    rw[this,hu]at h1;cases h1
  ·rintro⟨d,hd,h1⟩
   exact⟨d,(List.mem_filter.1 hd).1,h1⟩
 ·have hd:dW b t x q=({b with entries:=r'},kD 1 u'++[⟨1,4,t,x,[]⟩]):=by simp[dW,hc,h.par]
  have hsx:e.sub=x:=(wL.1 hi).2
  obtain⟨r2,u2,g1,g2,g3⟩:=xL t (b.entries.filter fun y=>!isE t x y) [] []
  have hf:b.entries.find? (isE t x)=some e:=by
   cases hf:b.entries.find? (isE t x)with
   | none=>exact absurd hi (List.find?_eq_none.1 hf e he)
   | some d =>
    have h1:=List.mem_of_find?_eq_some hf
    have h2:=List.find?_some hf
    rw[h.uniq h1 he ((wL.1 h2).2.trans hsx.symm)]
  have Io:dO b t x q=({b with entries:=r2},u2,true):=by
   unfold dO
   rw[hf]
   simp only
   rw[if_pos hq,if_pos hu,g1];simp
  have e12:r'=r2∧u'=u2:=by
   rw[hc]at Io
   simp only[Prod.mk.injEq,aG.mk.injEq,true_and,and_true]at Io
   exact Io
  obtain⟨rfl,rfl⟩:=e12
  rw[hd]at hL ⊢
  have Vm:(u'.map (·.sub)).Nodup:=by
   have hp:u'.Pairwise fun a c=>fW c.tree c.sub a<0:=List.Pairwise.sublist g2 hL.k.re
   rw[List.Nodup,List.pairwise_map]
   refine List.Pairwise.imp_of_mem (fun {a c} ha hc aY GT=>?_) hp
   have:fW c.tree c.sub a=0:=kU.2 ⟨by rw[(wM a ha).2.1,(wM c hc).2.1],GT⟩
   omega
  have Df:∀y∈u',y.sub ∉ M.map (·.1):=fun y hy hm=>by
   obtain⟨d,hd,h1,h2⟩:=(s.key y.sub).1 hm
   have h3:=(List.mem_filter.1 (wM y hy).2.2.2.1).1
   have:=h.uniq hd h3 h2
   rw[this]at h1;cases h1
  obtain⟨k1,k2⟩:=D6 (b:={b with entries:=r'}) u' M (fun y hy=>(wM y hy).2.1) Vm Df
  have sT:x∈(M++u'.map fun y=>(y.sub,y.pred)).map (·.1):=by
   rw[List.map_append,List.mem_append]
   exact .inl ((s.key x).2 ⟨e,he,hu,hsx⟩)
  have hlast:vX {b with entries:=r'} (kL (M++u'.map fun y=>(y.sub,y.pred)) ⟨1,4,t,x,[]⟩):=by
   simp only[kL,if_true]
   refine⟨?_,fun y p=>?_⟩
   ·have:((M++u'.map fun y=>(y.sub,y.pred)).map (·.1)).Nodup:=by
     rw[List.map_append,List.map_map]
     refine List.nodup_append.2 ⟨s.nd,Vm,fun a ha c hc e'=>?_⟩
     obtain⟨y,hy,rfl⟩:=List.mem_map.1 hc
     exact Df y hy (by rw[e']at ha;exact ha)
    exact List.Pairwise.sublist (List.Sublist.map _ (List.filter_sublist ..)) this
   ·unfold FN
    rw[List.mem_filter,List.mem_append,s.mem]
    have cY:(!decide ((y,p).1=x))=true↔y≠x:=by simp
    rw[cY]
    constructor
    ·rintro⟨h1|h1,h2⟩
     ·obtain⟨d,hd,h3,h4,h5⟩:=h1
      have h6:d∈b.entries.filter fun z=>!isE t x z:=List.mem_filter.2 ⟨hd,by
       have:isE t x d=false:=F5.2 fun hh=>h2 (h4 ▸ hh.2)
       rw[this];rfl⟩
      rcases hR.of_mem h6 with h7|⟨_,h7,_⟩
      ·exact⟨d,h7,h3,h4,h5⟩
      ·rw[h3]at h7;cases h7
     ·obtain⟨z,hz,hh⟩:=List.mem_map.1 h1
      simp only[Prod.mk.injEq]at hh
      exact⟨z,(wM z hz).1,(wM z hz).2.2.1,hh.1,hh.2⟩
    ·rintro⟨d,hd,h3,h4,h5⟩
     have hdx:y≠x:=fun hh=>by
      rcases hR.mem hd with h6|⟨z,h6,_,_,h7⟩
      ·have:=(List.mem_filter.1 h6).2
       have h8:isE t x d=true:=wL.2 ⟨h.tree (List.mem_filter.1 h6).1,h4.trans hh⟩
       rw[h8]at this;cases this
      ·have:=(List.mem_filter.1 h6).2
       have h8:isE t x z=true:=wL.2 ⟨h.tree (List.mem_filter.1 h6).1,by rw[h7]at h4;exact h4.trans hh⟩
       rw[h8]at this;cases this
     refine⟨?_,hdx⟩
     rcases g3 d hd h3 with h6|h6
     ·exact .inl ⟨d,(List.mem_filter.1 h6).1,h3,h4,h5⟩
     ·exact .inr (List.mem_map.2 ⟨d,h6,by rw[h4,h5]⟩)
  refine⟨k1.append ?_,?_⟩
  ·rw[k2]
   refine .cons ⟨rfl,rfl,⟨fun _=>rfl,fun _=>sT⟩,fun _ z hz=>?_⟩ (.nil _)
   exact hL.covered hlast (List.mem_filter.1 hz).1
  ·rw[List.foldl_append,k2]
   exact hlast
theorem vX.end_{t:ID}{b:aG}{M:List (ID×aZ)}(h:sP t b)(s:vX b M){e:aX}(he:e∈b.entries):(e.sub∈M.map (·.1))↔e.up=true:=by
 rw[s.key]
 constructor
 ·rintro⟨d,hd,h1,h2⟩
  rw[←h.uniq hd he h2];exact h1
 ·intro h1;exact⟨e,he,h1,rfl⟩
theorem vX.le{t:ID}{b:aG}{M:List (ID×aZ)}(h:sP t b)(s:vX b M):M.length≤b.entries.length:=by
 have hn:∀{A B:List ID},A.Nodup→(∀x∈A,x∈B)→A.length≤B.length:=by
  intro A
  induction A with
  | nil=>intro B _ _;simp
  | cons a A ih =>
   intro B h1 h2
   obtain⟨h3,h4⟩:=List.nodup_cons.1 h1
   have h5:=ih (B:=B.erase a) h4 fun x hx=>(List.mem_erase_of_ne (fun e=>h3 (by rw[←e];exact hx))).2 (h2 x (List.mem_cons_of_mem _ hx))
   have h6:=h2 a (List.mem_cons_self ..)
   have h7:=List.length_erase_of_mem h6
   have h8:0<B.length:=List.length_pos_of_mem h6
   simp only[List.length_cons];omega
 have:=hn s.nd (B:=b.entries.map (·.sub)) fun x hx=>by
  obtain⟨e,he,_,h2⟩:=(s.key x).1 hx
  exact List.mem_map.2 ⟨e,he,h2⟩
 simpa using this
end Go.Dm.Tc
/-
Walks over maps whose rounds leave the heap alone: whatever the order,one answer.
-/
namespace Go.Dm.Tc
theorem Cm{α:Type}(x:α):∀(l p:List α),p∈tL x l→p.Perm (x::l)
 | [],p,h=>by simp[tL]at h;rw[h]
 | y::r,p,h=>by
  simp only[tL,List.mem_cons,List.mem_map]at h
  rcases h with rfl|⟨q,hq,rfl⟩
  ·exact .refl _
  ·exact((Cm x r q hq).cons y).trans (.swap ..)
theorem Fp{α:Type}:∀(l p:List α),p∈zM l→p.Perm l
 | [],p,h=>by simp[zM]at h;rw[h]
 | x::r,p,h=>by
  simp only[zM,List.mem_flatMap]at h
  obtain⟨q,hq,hp⟩:=h
  exact(Cm x q p hp).trans ((Fp r q hq).cons x)
theorem X1(x:DV×DV):B0 x x=true:=by simp[B0,DV.beq_refl]
theorem Ft:∀l:List (DV×DV),Fu l l=true
 | []=>rfl
 | x::r=>by simp[Fu,Qd,X1,Ft r]
theorem V2(o:DO):Ty o o=true:=by
 cases o with
 | mp es=>exact Ft es
 | arr e s xs c=>have:=sZ (DO.arr e s xs c);simpa[Ty]using this
 | dead=>have:=sZ DO.dead;simpa[Ty]using this
theorem Bv{α:Type}{f:α→α→Bool}(h:∀x,f x x=true):∀l:List α,qE f l l=true
 | []=>rfl
 | x::r=>by simp[qE,h x,Bv h r]
theorem Lm(N:Nat):∀(l:List DO) (i:Nat),qE (fun a b=>uR a b || Bu N b) l (l.set i .dead)=true
 | [],i=>by simp[qE]
 | x::r,0=>by
  have h2:qE (fun a b=>uR a b || Bu N b) r r=true:=Bv (fun y=>by rw[sZ];rfl) r
  simp only[List.set_cons_zero,qE,h2,Bool.and_true]
  simp[Bu]
 | x::r,i+1=>by simp[qE,sZ,Lm N r i]
theorem GD{g:DV→DV→Bool}{N:Nat}{a b:dK}(h:∀i,i<N→g (a i) (b i)=true):qE g (Dm.tab N a) (Dm.tab N b)=true:=by
 have key:∀(l:List Nat),(∀i∈l,i<N)→qE g (l.map a) (l.map b)=true:=by
  intro l
  induction l with
  | nil=>intro _;rfl
  | cons x r ih=>intro hl;simp only[List.map_cons,qE,h x (hl x (List.mem_cons_self ..)),ih fun i hi=>hl i (List.mem_cons_of_mem _ hi)];rfl
 exact key _ fun i hi=>List.mem_range.1 hi
theorem Sy{N:Nat}{F:dK}:∀(kl:List Nat) (g:dK),(∀i,i ∉ kl→g i=F i)→(∀i∈kl,F i=.unk)→Gi kl (Dm.tab N g)=Dm.tab N F
 | [],g,h,_=>by
  have:g=F:=funext fun i=>h i (by simp)
  rw[this];rfl
 | k::kl,g,h,hu=>by
  show Gi kl ((Dm.tab N g).set k .unk)=_
  rw[qH]
  refine Sy kl _ (fun i hi=>?_) fun i hi=>hu i (List.mem_cons_of_mem _ hi)
  by_cases e:i=k
  ·subst e
   simp[upd,hu i (List.mem_cons_self ..)]
  ·simp only[upd,if_neg e]
   exact h i (by simp[e,hi])
theorem Pt{D:bV}{N:Nat}{S:List Fr}{x:Opd}{it nx ok en X Y m:Nat}{kl:List Nat}{ops:List aJ}{b:aN}{f F:dK}{h:aA}{es:List (DV×DV)}(wf:WF h)
  (hx:x.eval (Dm.tab N f)=.map m) (hm:h.get m=some (.mp es))
  (hr:∀p,p.Perm es→∃ g,rounds (fc D) (ev D) it nx ok en X Y h.n ops b p (Dm.tab N (upd f it (.ptr h.n 0 0 0))) (iR h m)=.ok .normal (Dm.tab N g) (iR h m)∧∀i,i ∉ kl→g i=F i)
  (hu:∀i∈kl,F i=.unk) (hF:∀i,i<N→(DV.beq (f i) (F i) || dJ 200 h.n (F i))=true) :
  run D N S (.walk x it nx ok en X Y kl ops b) f h=ret D N S .normal F h:=by
 have aY:=aI hm
 have jQ:h.objs[h.n-1-m]?=some (.mp es):=by
  have:=hm
  unfold aA.get at this
  rwa[if_pos aY]at this
 have sT:∀p,p.Perm es→iF (fc D) (ev D) it nx ok en X Y kl ops b m es (Dm.tab N f) h p=.ok .normal (Dm.tab N F) h:=fun p hp=>by
  obtain⟨g,h1,h2⟩:=hr p hp
  unfold iF
  rw[qH,h1]
  simp only[rK]
  rw[Sy kl g h2 hu]
  have e1:(iR h m).n=h.n+1:=rfl
  have e2:(iR h m).objs.drop ((iR h m).n-h.n)=h.objs.set (h.n-1-m) .dead:=by
   rw[e1,show h.n+1-h.n=1 by omega];rfl
  rw[e2,GD hF,Lm,Bool.and_true,Bool.and_true,e1]
  rw[if_pos (by rw[Nat.ble_eq];omega)]
  congr 1
  unfold aA.set
  simp only[List.set_set]
  have:h.objs.set (h.n-1-m) (.mp es)=h.objs:=by
   apply List.ext_getElem?
   intro j
   rw[List.getElem?_set]
   by_cases e:h.n-1-m=j
   ·subst e
    rw[if_pos rfl]
    have hl:=(List.getElem?_eq_some_iff.1 jQ).1
    rw[if_pos hl,jQ]
   ·rw[if_neg e]
  rw[this]
 have jG:lZ h (x.eval (Dm.tab N f))=some (m,es):=by rw[hx];simp[lZ,hm]
 unfold run
 rw[LB,jG]
 simp only[rT,sT es (.refl _)]
 rw[if_pos ?_]
 ·rfl
 ·rw[List.all_eq_true]
  intro p hp
  rw[sT p (Fp es p hp)]
  simp[Ou,fV,Bv V2]
theorem Fe{D:bV}{N:Nat}{it nx ok en X Y p:Nat}{ops:List aJ}{b:aN}{g g':dK}{H H':aA}{k v:DV}{r:List (DV×DV)}(hit:g it=.ptr p 0 0 0)(hl:it<N∧nx<N∧ok<N)
  (hs:run D N [] (.seq (.region ops) b) (upd (upd (upd g nx (.tup [.bool true,k,v])) ok (.bool true)) en (.tup [k,v])) H=.ok .normal (Dm.tab N g') H') :
  rounds (fc D) (ev D) it nx ok en X Y p ops b ((k,v)::r) (Dm.tab N g) H=rounds (fc D) (ev D) it nx ok en X Y p ops b r (Dm.tab N g') H':=by
 have cB:(Dm.tab N g).length=N:=by simp[Dm.tab]
 have hg:(Dm.tab N g)[it]?=some (.ptr p 0 0 0):=by rw[qI,if_pos hl.1,hit]
 simp only[rounds,hg,cB]
 rw[if_pos ⟨trivial,hl.2.1,hl.2.2⟩,qH,qH,qH]
 rw[D9,Fc]at hs
 unfold xP at hs
 generalize eO (fc D) ops _ H=R at hs ⊢
 cases R with
 | none=>cases hs
 | some y =>
  obtain⟨env1,h1⟩:=y
  simp only[uV]at hs ⊢
  generalize ev D b env1 h1=R2 at hs ⊢
  cases R2 with
  | fail=>cases hs
  | ok e env2 h2=>simp only[uV]at hs ⊢;cases hs;rfl
theorem Ko{D:bV}{N:Nat}{it nx ok en X Y p:Nat}{ops:List aJ}{b:aN}{g:dK}{H:aA}(hit:g it=.ptr p 0 0 0)(hl:it<N∧nx<N∧ok<N) :
  rounds (fc D) (ev D) it nx ok en X Y p ops b [] (Dm.tab N g) H=.ok .normal (Dm.tab N (upd (upd g nx (.tup [.bool false])) ok (.bool false))) H:=by
 have cB:(Dm.tab N g).length=N:=by simp[Dm.tab]
 have hg:(Dm.tab N g)[it]?=some (.ptr p 0 0 0):=by rw[qI,if_pos hl.1,hit]
 simp only[rounds,hg,cB]
 rw[if_pos ⟨trivial,hl.2.1,hl.2.2⟩,qH,qH]
end Go.Dm.Tc
/-
RouteAbove: maps of predicates by number;the walks over what was said.
-/
namespace Go.Dm.Tc
def Ah(h:aA)(q:EqT)(m k:DV):Option aA :=
 match m with
 | .map id=>match h.get id with
  | some (.mp es) =>
   if h.lim≤id∧(fO q k k).isSome=true then
    match lY q k es with
    | some (some (i,_))=>some (h.set id (.mp (es.eraseIdx i)))
    | some none=>some (h.set id (.mp es))
    | none=>none
   else none
  | _=>none
 | _=>none
theorem Q9{c:fH}{env:Env}{h:aA}(q:EqT)(m k:Opd):bH c (.delete q m k) env h=Ax (Ah h q (m.eval env) (k.eval env)):=by
 simp only[bH,aC,Ah]
 cases m.eval env with
 | map id =>
  simp only
  cases h.get id with
  | none=>rfl
  | some o =>
   cases o with
   | mp es =>
    simp only
    split
    ·cases lY q (k.eval env) es with
     | none=>rfl
     | some r=>cases r with
      | none=>rfl
      | some y=>rfl
    ·rfl
   | arr a b c d=>rfl
   | dead=>rfl
 | _=>rfl
def Oz(x:ID):List (ID×DV)→List (ID×DV)
 | []=>[]
 | p::r=>if p.1=x then r else p::Oz x r
theorem EY(x:ID):∀(ms:List (ID×DV)) (i:Nat),(mG ms x=none∧Oz x ms=ms)∨(∃ j v,mG ms x=some v∧fG (.agg [1,1]) (kID x) (fP ms) i=some (some (i+j,v))∧(fP ms).eraseIdx j=fP (Oz x ms)):=by
 intro ms
 induction ms with
 | nil=>intro i;exact .inl ⟨rfl,rfl⟩
 | cons p r ih =>
  intro i
  obtain⟨y,u⟩:=p
  by_cases h:y=x
  ·subst h
   refine .inr ⟨0,u,by simp[mG],?_,by simp[fP,Oz]⟩
   simp only[fP,List.map_cons,fG]
   rw[nU,decide_eq_true rfl]
   rfl
  ·have hf:fG (.agg [1,1]) (kID x) (fP ((y,u)::r)) i=fG (.agg [1,1]) (kID x) (fP r) (i+1):=by
    simp only[fP,List.map_cons,fG]
    rw[nU,decide_eq_false h]
   have hg:mG ((y,u)::r) x=mG r x:=by simp[mG,h]
   rw[hf,hg]
   rcases ih (i+1)with⟨h1,h2⟩|⟨j,v,h1,h2,h3⟩
   ·exact .inl ⟨h1,by simp only[Oz,if_neg h,h2]⟩
   ·refine .inr ⟨j+1,v,h1,by rw[h2,show i+1+j=i+(j+1) by omega],?_⟩
    simp only[Oz,if_neg h]
    simp only[fP,List.map_cons,List.eraseIdx_cons_succ]at h3 ⊢
    rw[h3]
theorem LK{h:aA}{id:Nat}{ms:List (ID×DV)}(g:h.get id=some (.mp (fP ms)))(hn:(ms.map (·.1)).Nodup)(hl:h.lim≤id)(x:ID):Ah h (.agg [1,1]) (.map id) (.agg [.int .i64 x.bS,.int .i64 x.seq])=some (h.set id (.mp (fP (Oz x ms)))):=by
 have he:(fO (.agg [1,1]) (kID x) (kID x)).isSome=true:=by rw[nU];rfl
 have hh:(if x∈ms.map (·.1)then 1 else 0)≤1:=by split<;>omega
 show Ah h (.agg [1,1]) (.map id) (kID x)=_
 simp only[Ah,g,he,hl,and_self,if_true,lY,Gv x ms hn,if_pos hh]
 rcases EY x ms 0 with⟨h1,h2⟩|⟨j,u,h1,h2,h3⟩
 ·rcases Hf x ms 0 with⟨_,h4,_⟩|⟨j,v,h4,_,_⟩
  ·rw[h4,h2]
  ·rw[h1]at h4;cases h4
 ·rw[h2]
  simp only[Nat.zero_add]
  rw[h3]
def eP(M:List (ID×aZ)):List (ID×DV):=M.map fun y=>(y.1,bO y.2)
theorem H6(M:List (ID×aZ)):(eP M).map (·.1)=M.map (·.1):=by simp[eP]
theorem FH(x:ID)(p:aZ):∀M:List (ID×aZ),uF x (bO p) (eP M)=eP (Jg x p M)
 | []=>rfl
 | y::r=>by
  have:=FH x p r
  simp only[eP,List.map_cons,uF,Jg]at this ⊢
  split
  ·rfl
  ·rw[this];rfl
theorem FI(x:ID):∀M:List (ID×aZ),(M.map (·.1)).Nodup→Oz x (eP M)=eP (FN x M)
 | [],_=>rfl
 | y::r,h=>by
  obtain⟨h1,h2⟩:=List.nodup_cons.1 (by simpa using h:(y.1::r.map (·.1)).Nodup)
  have:=FI x r h2
  simp only[eP,List.map_cons,Oz,FN,List.filter_cons]at this ⊢
  by_cases e:y.1=x
  ·have hr:(r.filter fun y=>!decide (y.1=x))=r:=List.filter_eq_self.2 fun z hz=>by
    have:z.1≠x:=fun e2=>h1 (List.mem_map.2 ⟨z,hz,e2.trans e.symm⟩)
    simp[this]
   rw[if_pos e];simp[e,hr]
  ·rw[if_neg e,this];simp[e]
theorem Zx(x:ID):∀M:List (ID×aZ),(x∈M.map (·.1)→∃ p,mG (eP M) x=some (bO p))∧(x ∉ M.map (·.1)→mG (eP M) x=none)
 | []=>⟨fun h=>by simp at h,fun _=>rfl⟩
 | y::r=>by
  obtain⟨h1,h2⟩:=Zx x r
  by_cases e:y.1=x
  ·exact⟨fun _=>⟨y.2,by simp[eP,mG,e]⟩,fun h=>absurd (by simp[e]) h⟩
  ·have hg:mG (eP (y::r)) x=mG (eP r) x:=by simp[eP,mG,e]
   have e':¬x=y.1:=fun q=>e q.symm
   rw[hg]
   simp only[List.map_cons,List.mem_cons,e',false_or]
   exact⟨h1,h2⟩
theorem Sd{α β:Type}{f:α→β}{p q:List β}(h:p.Perm q):∀l:List α,q=l.map f→∃ l':List α,l'.Perm l∧l'.map f=p:=by
 induction h with
 | nil=>intro l hl;exact⟨l,.refl _,hl.symm⟩
 | cons x _ ih =>
  intro l hl
  cases l with
  | nil=>simp at hl
  | cons a t =>
   simp only[List.map_cons,List.cons.injEq]at hl
   obtain⟨t',h1,h2⟩:=ih t hl.2
   exact⟨a::t',h1.cons a,by rw[List.map_cons,h2,hl.1]⟩
 | swap x y l2 =>
  intro l hl
  cases l with
  | nil=>simp at hl
  | cons a t =>
   cases t with
   | nil=>simp at hl
   | cons b t =>
    simp only[List.map_cons,List.cons.injEq]at hl
    exact⟨b::a::t,.swap ..,by simp[hl.1,hl.2.1,hl.2.2]⟩
 | trans _ _ ih1 ih2 =>
  intro l hl
  obtain⟨l2,h1,h2⟩:=ih2 l hl
  obtain⟨l3,h3,h4⟩:=ih1 l2 h2.symm
  exact⟨l3,h3.trans h1,h4⟩
theorem Vg{α:Type}(f:α→Bool){a b:List α}(h:a.Perm b):a.any f=b.any f:=by
 rw[Bool.eq_iff_iff,List.any_eq_true,List.any_eq_true]
 exact⟨fun⟨x,h1,h2⟩=>⟨x,h.mem_iff.1 h1,h2⟩,fun⟨x,h1,h2⟩=>⟨x,h.mem_iff.2 h1,h2⟩⟩
def V4(y:ID×aZ):DV×DV:=(kID y.1,bO y.2)
theorem H7(M:List (ID×aZ)):fP (eP M)=M.map V4:=by simp[fP,eP,V4]
set_option maxHeartbeats 4000000 in
theorem SC(h:aA)(eid:Nat)(ty:Nat)(e:aX)(ge:h.get eid=some (.arr ty 7 [aD e] (some 1)))(he:bM e.pred)(p0:Nat)(f:dK)(fe:f 17=.ptr eid 7 0 0) :
  ∀(M:List (ID×aZ)),(∀y∈M,bM y.2)→∀(g:dK) (a:Bool),g 175=.ptr p0 0 0 0→g 18=.bool a→(∀i,i ∉ ([175,176,177,178,186,185,184,183,182,181,180,20,179,178]:List Nat)→i≠18→g i=f i) →
  ∃ g',rounds (fc D) (ev D) 175 176 177 178 7 8 p0 [oX 179 178 1,oM 20 179] Wd (M.map V4) (Dm.tab 243 g) h=.ok .normal (Dm.tab 243 g') h∧g' 18=.bool (a || iK M e.pred)∧∀i,i ∉ ([175,176,177,178,186,185,184,183,182,181,180,20,179,178]:List Nat)→i≠18→g' i=f i:=by
 intro M
 induction M with
 | nil =>
  intro _ g a hit ha hg
  refine⟨_,Ko hit (by decide),?_,fun i hi cY=>?_⟩
  ·simp[ha,iK]
  ·have h1:i≠176:=fun e=>hi (by rw[e];decide)
   have h2:i≠177:=fun e=>hi (by rw[e];decide)
   simp only[upd,if_neg h1,if_neg h2]
   exact hg i hi cY
 | cons y M ih =>
  intro hM g a hit ha hg
  have hy:=hM y (List.mem_cons_self ..)
  have hC:=s15 y.2 e.pred he.unlike (by have:=hy.len;omega) (by have:=he.len;omega)
  have ge':=ge
  simp only[aD]at ge'
  have g17:g 17=.ptr eid 7 0 0:=(hg 17 (by decide) (by decide)).trans fe
  have Gm:∃ g1,run D 243 [] (.seq (.region [oX 179 178 1,oM 20 179]) Wd) (upd (upd (upd g 176 (.tup [.bool true,kID y.1,bO y.2])) 177 (.bool true)) 178 (.tup [kID y.1,bO y.2])) h=.ok .normal (Dm.tab 243 g1) h∧g1 175=.ptr p0 0 0 0∧g1 18=.bool (a || iJ y.2 e.pred)∧∀i,i ∉ ([175,176,177,178,186,185,184,183,182,181,180,20,179,178]:List Nat)→i≠18→g1 i=f i:=by
   cases a
   ·simp[Wd,ha,g17,ge',e15,hC]
    refine⟨_,rfl,by simp[hit],by simp,fun i n0 n1 n2 n3 n4 n5 n6 n7 n8 n9 n10 n11 n12 n13 n14=>?_⟩
    simp[n0,n1,n2,n3,n4,n5,n6,n7,n8,n9,n10,n11,n12,n13,n14]
    exact hg i (by simp[n0,n1,n2,n3,n4,n5,n6,n7,n8,n9,n10,n11,n12,n13]) n14
   ·simp[Wd,ha,g17,ge',e15,hC]
    refine⟨_,rfl,by simp[hit],by simp,fun i n0 n1 n2 n3 n4 n5 n6 n7 n8 n9 n10 n11 n12 n13 n14=>?_⟩
    simp[n0,n1,n2,n3,n4,n5,n6,n7,n8,n9,n10,n11,n12,n13,n14]
    exact hg i (by simp[n0,n1,n2,n3,n4,n5,n6,n7,n8,n9,n10,n11,n12,n13]) n14
  obtain⟨g1,h1,h2,h3,h4⟩:=Gm
  obtain⟨g',k1,k2,k3⟩:=ih (fun z hz=>hM z (List.mem_cons_of_mem _ hz)) g1 _ h2 h3 h4
  refine⟨g',?_,?_,k3⟩
  ·rw[List.map_cons]
   show rounds (fc D) (ev D) 175 176 177 178 7 8 p0 [oX 179 178 1,oM 20 179] Wd ((kID y.1,bO y.2)::M.map V4) (Dm.tab 243 g) h=_
   rw[Fe hit (by decide) h1]
   exact k1
  ·rw[k2];simp[iK,Bool.or_assoc]
theorem wa3(S:List Fr)(f:dK)(h:aA)(wf:WF h)(id eid ty:Nat)(e:aX)(M:List (ID×aZ))(he:bM e.pred)(hM:∀y∈M,bM y.2)(fm:f 174=.map id)(gm:h.get id=some (.mp (fP (eP M))))(fe:f 17=.ptr eid 7 0 0)(ge:h.get eid=some (.arr ty 7 [aD e] (some 1)))(fa:f 18=.bool false) :
  ∃ F,run D 243 S (.walk (.t 174) 175 176 177 178 7 8 [175,176,177,178,186,185,184,183,182,181,180,20,179,178] [oX 179 178 1,oM 20 179] Wd) f h=ret D 243 S .normal F h∧F 18=.bool (iK M e.pred)∧∀i,i ∉ ([175,176,177,178,186,185,184,183,182,181,180,20,179,178]:List Nat)→i≠18→F i=f i:=by
 obtain⟨F,hF⟩:∃ F:dK,F=fun i=>if i∈([175,176,177,178,186,185,184,183,182,181,180,20,179,178]:List Nat)then .unk else if i=18 then .bool (iK M e.pred)else f i:=⟨_,rfl⟩
 refine⟨F,?_,by rw[hF];simp,fun i hi cY=>by rw[hF];simp only[if_neg hi,if_neg cY]⟩
 have cY:eid≠id:=by rintro rfl;rw[ge]at gm;cases gm
 have aY:=aI gm
 have ge2:(iR h id).get eid=some (.arr ty 7 [aD e] (some 1)):=by
  unfold iR
  rw[bP (by simp;exact aI ge),bD aY cY];exact ge
 refine Pt wf (x:=.t 174) (m:=id) (es:=fP (eP M)) (by rw[Zn,MB (by decide)];exact fm) gm (fun p hp=>?_) (fun i hi=>by rw[hF];simp only[if_pos hi]) (fun i hi=>?_)
 ·rw[H7]at hp
  obtain⟨M',h1,h2⟩:=Sd hp M rfl
  obtain⟨g,k1,k2,k3⟩:=SC (iR h id) eid ty e ge2 he h.n f fe M' (fun y hy=>hM y (h1.mem_iff.1 hy)) (upd f 175 (.ptr h.n 0 0 0)) false (by simp[upd]) (by simp[upd,fa]) (fun i hi _=>by
   have:i≠175:=fun e=>hi (by rw[e];decide)
   simp only[upd,if_neg this])
  rw[h2]at k1
  refine⟨g,k1,fun i hi=>?_⟩
  rw[hF]
  simp only[if_neg hi]
  by_cases e':i=18
  ·rw[e',k2,if_pos rfl]
   simp only[Bool.false_or,iK,Vg _ h1]
  ·rw[if_neg e'];exact k3 i hi e'
 ·rw[hF]
  by_cases h1:i∈([175,176,177,178,186,185,184,183,182,181,180,20,179,178]:List Nat)
  ·simp only[if_pos h1];simp[dJ]
  ·by_cases h2:i=18
   ·simp only[if_neg h1,if_pos h2];simp[dJ]
   ·simp only[if_neg h1,if_neg h2,DV.beq_refl,Bool.true_or]
set_option maxHeartbeats 4000000 in
theorem SB(h:aA)(eid:Nat)(ty:Nat)(e:aX)(ge:h.get eid=some (.arr ty 7 [aD e] (some 1)))(he:bM e.pred)(p0:Nat)(f:dK)(fe:f 22=.ptr eid 7 0 0) :
  ∀(M:List (ID×aZ)),(∀y∈M,bM y.2)→∀(g:dK) (a:Bool),g 206=.ptr p0 0 0 0→g 23=.bool a→(∀i,i ∉ ([206,207,208,209,217,216,215,214,213,212,211,25,210,209]:List Nat)→i≠23→g i=f i) →
  ∃ g',rounds (fc D) (ev D) 206 207 208 209 11 12 p0 [oX 210 209 1,oM 25 210] Wc (M.map V4) (Dm.tab 243 g) h=.ok .normal (Dm.tab 243 g') h∧g' 23=.bool (a || iK M e.pred)∧∀i,i ∉ ([206,207,208,209,217,216,215,214,213,212,211,25,210,209]:List Nat)→i≠23→g' i=f i:=by
 intro M
 induction M with
 | nil =>
  intro _ g a hit ha hg
  refine⟨_,Ko hit (by decide),?_,fun i hi cY=>?_⟩
  ·simp[ha,iK]
  ·have h1:i≠207:=fun e=>hi (by rw[e];decide)
   have h2:i≠208:=fun e=>hi (by rw[e];decide)
   simp only[upd,if_neg h1,if_neg h2]
   exact hg i hi cY
 | cons y M ih =>
  intro hM g a hit ha hg
  have hy:=hM y (List.mem_cons_self ..)
  have hC:=s15 y.2 e.pred he.unlike (by have:=hy.len;omega) (by have:=he.len;omega)
  have ge':=ge
  simp only[aD]at ge'
  have g17:g 22=.ptr eid 7 0 0:=(hg 22 (by decide) (by decide)).trans fe
  have Gm:∃ g1,run D 243 [] (.seq (.region [oX 210 209 1,oM 25 210]) Wc) (upd (upd (upd g 207 (.tup [.bool true,kID y.1,bO y.2])) 208 (.bool true)) 209 (.tup [kID y.1,bO y.2])) h=.ok .normal (Dm.tab 243 g1) h∧g1 206=.ptr p0 0 0 0∧g1 23=.bool (a || iJ y.2 e.pred)∧∀i,i ∉ ([206,207,208,209,217,216,215,214,213,212,211,25,210,209]:List Nat)→i≠23→g1 i=f i:=by
   cases a
   ·simp[Wc,ha,g17,ge',e15,hC]
    refine⟨_,rfl,by simp[hit],by simp,fun i n0 n1 n2 n3 n4 n5 n6 n7 n8 n9 n10 n11 n12 n13 n14=>?_⟩
    simp[n0,n1,n2,n3,n4,n5,n6,n7,n8,n9,n10,n11,n12,n13,n14]
    exact hg i (by simp[n0,n1,n2,n3,n4,n5,n6,n7,n8,n9,n10,n11,n12,n13]) n14
   ·simp[Wc,ha,g17,ge',e15,hC]
    refine⟨_,rfl,by simp[hit],by simp,fun i n0 n1 n2 n3 n4 n5 n6 n7 n8 n9 n10 n11 n12 n13 n14=>?_⟩
    simp[n0,n1,n2,n3,n4,n5,n6,n7,n8,n9,n10,n11,n12,n13,n14]
    exact hg i (by simp[n0,n1,n2,n3,n4,n5,n6,n7,n8,n9,n10,n11,n12,n13]) n14
  obtain⟨g1,h1,h2,h3,h4⟩:=Gm
  obtain⟨g',k1,k2,k3⟩:=ih (fun z hz=>hM z (List.mem_cons_of_mem _ hz)) g1 _ h2 h3 h4
  refine⟨g',?_,?_,k3⟩
  ·rw[List.map_cons]
   show rounds (fc D) (ev D) 206 207 208 209 11 12 p0 [oX 210 209 1,oM 25 210] Wc ((kID y.1,bO y.2)::M.map V4) (Dm.tab 243 g) h=_
   rw[Fe hit (by decide) h1]
   exact k1
  ·rw[k2];simp[iK,Bool.or_assoc]
theorem wb3(S:List Fr)(f:dK)(h:aA)(wf:WF h)(id eid ty:Nat)(e:aX)(M:List (ID×aZ))(he:bM e.pred)(hM:∀y∈M,bM y.2)(fm:f 205=.map id)(gm:h.get id=some (.mp (fP (eP M))))(fe:f 22=.ptr eid 7 0 0)(ge:h.get eid=some (.arr ty 7 [aD e] (some 1)))(fa:f 23=.bool false) :
  ∃ F,run D 243 S (.walk (.t 205) 206 207 208 209 11 12 [206,207,208,209,217,216,215,214,213,212,211,25,210,209] [oX 210 209 1,oM 25 210] Wc) f h=ret D 243 S .normal F h∧F 23=.bool (iK M e.pred)∧∀i,i ∉ ([206,207,208,209,217,216,215,214,213,212,211,25,210,209]:List Nat)→i≠23→F i=f i:=by
 obtain⟨F,hF⟩:∃ F:dK,F=fun i=>if i∈([206,207,208,209,217,216,215,214,213,212,211,25,210,209]:List Nat)then .unk else if i=23 then .bool (iK M e.pred)else f i:=⟨_,rfl⟩
 refine⟨F,?_,by rw[hF];simp,fun i hi cY=>by rw[hF];simp only[if_neg hi,if_neg cY]⟩
 have cY:eid≠id:=by rintro rfl;rw[ge]at gm;cases gm
 have aY:=aI gm
 have ge2:(iR h id).get eid=some (.arr ty 7 [aD e] (some 1)):=by
  unfold iR
  rw[bP (by simp;exact aI ge),bD aY cY];exact ge
 refine Pt wf (x:=.t 205) (m:=id) (es:=fP (eP M)) (by rw[Zn,MB (by decide)];exact fm) gm (fun p hp=>?_) (fun i hi=>by rw[hF];simp only[if_pos hi]) (fun i hi=>?_)
 ·rw[H7]at hp
  obtain⟨M',h1,h2⟩:=Sd hp M rfl
  obtain⟨g,k1,k2,k3⟩:=SB (iR h id) eid ty e ge2 he h.n f fe M' (fun y hy=>hM y (h1.mem_iff.1 hy)) (upd f 206 (.ptr h.n 0 0 0)) false (by simp[upd]) (by simp[upd,fa]) (fun i hi _=>by
   have:i≠206:=fun e=>hi (by rw[e];decide)
   simp only[upd,if_neg this])
  rw[h2]at k1
  refine⟨g,k1,fun i hi=>?_⟩
  rw[hF]
  simp only[if_neg hi]
  by_cases e':i=23
  ·rw[e',k2,if_pos rfl]
   simp only[Bool.false_or,iK,Vg _ h1]
  ·rw[if_neg e'];exact k3 i hi e'
 ·rw[hF]
  by_cases h1:i∈([206,207,208,209,217,216,215,214,213,212,211,25,210,209]:List Nat)
  ·simp only[if_pos h1];simp[dJ]
  ·by_cases h2:i=23
   ·simp only[if_neg h1,if_pos h2];simp[dJ]
   ·simp only[if_neg h1,if_neg h2,DV.beq_refl,Bool.true_or]
end Go.Dm.Tc
/-
RouteAbove: one call after another,plain;the loops over entries and messages.
-/
namespace Go.Dm.Tc
theorem S4{t:ID}{b:aG}(h:sP t b)(hn:b.bJ=[1,2,3])(q:Int)(hq:q=-1∨q=2∨q=3):nQ b q=true:=by
 unfold nQ
 rcases hq with rfl|rfl|rfl<;>simp[hn]
structure RaB(t:ID)(b:aG)(M:List (ID×aZ))(n:Nat):Prop where
 l:sP t b
 s:vX b M
 z:SzK b n
 nr:b.bJ=[1,2,3]
theorem RaB.preds{t:ID}{b:aG}{M:List (ID×aZ)}{n:Nat}(h:RaB t b M n):∀y∈M,bM y.2:=by
 rintro⟨x,p⟩ hy
 obtain⟨e,he,_,_,h4⟩:=(h.s.mem x p).1 hy
 rw[←h4];exact h.l.k.pe e he
structure rR(t:ID)(M:List (ID×aZ))(n:Nat)(r:aG×List iW):Prop where
 ok:pZ t r.1 M r.2
 b:RaB t r.1 (r.2.foldl kL M) n
 pr:∀o∈r.2,bM o.pred
theorem Fl:bM []:=Kt [] []
theorem RaB.add{t:ID}{b:aG}{M:List (ID×aZ)}{n:Nat}(h:RaB t b M n){x:ID}{p:aZ}(hp:bM p){q:Int}(hq:q=-1∨q=2∨q=3) :
  pZ t (eS b ⟨t,x,p,q,false⟩).1 M (if(eS b ⟨t,x,p,q,false⟩).2=true then[⟨1,3,t,x,p⟩]else[])∧RaB t (eS b ⟨t,x,p,q,false⟩).1 ((if(eS b ⟨t,x,p,q,false⟩).2=true then[(⟨1,3,t,x,p⟩:iW)]else[]).foldl kL M) (n+1):=by
 obtain⟨h1,h2,h3⟩:=vX.add (e:=⟨t,x,p,q,false⟩) h.l h.s rfl (S4 h.l h.nr q hq) hp
 exact⟨h2,h1,h3,h.z.add _,by rw[Ic];exact h.nr⟩
theorem RaB.onSub{t:ID}{b:aG}{M:List (ID×aZ)}{n:Nat}(h:RaB t b M n){x:ID}{p:aZ}(hp:bM p){q:Int}(hq:q=2∨q=3):rR t M (n+1) (fN b q t x p):=by
 obtain⟨h1,h2⟩:=h.add hp (x:=x) (q:=q) (.inr hq)
 have e:fN b q t x p=((eS b ⟨t,x,p,q,false⟩).1,if(eS b ⟨t,x,p,q,false⟩).2=true then[⟨1,3,t,x,p⟩]else[]):=by unfold fN;rw[h.l.par]
 rw[e]
 refine⟨h1,h2,fun o ho=>?_⟩
 simp only at ho
 split at ho
 ·simp at ho;rw[ho];exact hp
 ·simp at ho
theorem RaB.drop{t:ID}{b:aG}{M:List (ID×aZ)}{n:Nat}(h:RaB t b M n)(x:ID)(q:Int):rR t M (n+1) (dW b t x q):=by
 obtain⟨h1,h2,h3⟩:=vX.drop h.l h.s x q
 refine⟨h2,⟨h1,h3,(W0 h.l.k h.z t x q).2,by rw[sM,Au];exact h.nr⟩,fun o ho=>?_⟩
 unfold dW at ho
 split at ho
 ·simp only[List.mem_append,List.mem_singleton]at ho
  rcases ho with ho|ho
  ·obtain⟨e,he,rfl⟩:=List.mem_map.1 ho
   rcases mN h.l.k t x q with⟨hc,_⟩|⟨e',_,_,_,_,hc⟩|⟨e',_,_,_,_,r',u',hc,_,_,wM⟩
   ·rw[hc]at he;cases he
   ·rw[hc]at he;cases he
   ·rw[hc]at he
    have:=(List.mem_filter.1 (wM e he).2.2.2.1).1
    have:=h.l.k.pe _ this
    exact this
  ·rw[ho];exact Fl
 ·cases ho
theorem RaB.cW{t:ID}{b c:aG}{M:List (ID×aZ)}{n:Nat}(h:RaB t b M n)(hk:eR c)(ha:c.aP=b.aP)(he:c.entries=b.entries)(hn:c.bJ=b.bJ)(hz:SzK c (n+1)):RaB t c M (n+1) :=
 ⟨⟨hk,by rw[ha];exact h.l.adv⟩,⟨h.s.nd,fun x p=>by rw[he];exact h.s.mem x p⟩,hz,by rw[hn];exact h.nr⟩
theorem RaB.subscribe{t:ID}{b:aG}{M:List (ID×aZ)}{n:Nat}(h:RaB t b M n){x:ID}{p:aZ}(hp:bM p):rR t M (n+2) (eV b x p):=by
 have hk:=El h.l.k h.z (x:=x) hp
 unfold eV at hk ⊢
 split
 ·rename_i hh
  exact⟨.nil M,⟨h.l,h.s,h.z.mono (by omega),h.nr⟩,fun o ho=>by cases ho⟩
 ·rename_i hh
  rw[if_neg hh]at hk
  have hi:=h.l.k.subOwn hp (Oe h.l.k.ro x (by simpa using hh))
  have hzo:SzK (subOwn b x p) (n+1):=by
   obtain⟨z1,z2,z3,z4,z5⟩:=h.z
   have hl:(subOwn b x p).cW.length=b.cW.length+1:=Bi ..
   have:=Mp n
   exact⟨z1,Nat.le_succ_of_le z2,Nat.le_succ_of_le z3,by rw[hl];omega,by show b.entries.length≤_;omega⟩
  have ho:=h.cW hi rfl rfl rfl hzo
  rw[h.l.adv]
  simp only[List.foldl_cons,List.foldl_nil,eY]
  by_cases hm:vA p []=true
  ·rw[if_pos hm]
   obtain⟨h1,h2⟩:=ho.add hp (x:=x) (q:=-1) (.inl rfl)
   refine⟨by simpa using h1,by simpa using h2,fun o Tf=>?_⟩
   simp only[List.nil_append]at Tf
   split at Tf
   ·simp at Tf;rw[Tf];exact hp
   ·cases Tf
  ·rw[if_neg hm]
   exact⟨.nil M,⟨ho.l,ho.s,ho.z.mono (by omega),ho.nr⟩,fun o ho=>by cases ho⟩
theorem RaB.unsubscribe{t:ID}{b:aG}{M:List (ID×aZ)}{n:Nat}(h:RaB t b M n)(x:ID):rR t M (n+2) (eU b x):=by
 unfold eU
 split
 ·exact⟨.nil M,⟨h.l,h.s,h.z.mono (by omega),h.nr⟩,fun o ho=>by cases ho⟩
 ·have hzo:SzK (endOwn b x) (n+1):=SzK.mono ⟨h.z.bJ,h.z.adv,h.z.seen,Nat.le_trans (List.length_filter_le ..) h.z.own,h.z.ent⟩ (by omega)
  have ho:=h.cW (h.l.k.endOwn x) rfl rfl rfl hzo
  rw[h.l.adv]
  simp only[List.foldl_cons,List.foldl_nil,jX,List.nil_append]
  exact ho.drop x (-1)
set_option maxHeartbeats 4000000 in
theorem l03(P:Res→Prop)(S:List Fr)(t:Bool)(E:List aX)(hE:∀e∈E,bM e.pred)(hEl:E.length≤100000)(M:List (ID×aZ))(hM:∀y∈M,bM y.2)(k:Int)(hcov:k=4→∀e∈E,iK M e.pred=true)(mid oid:Nat)(K0:aA)(G0:K0.lim=0)(gm0:K0.get mid=some (.mp (fP (eP M))))(ot:Nat)(oc:Option Nat)(o1:Int)(or:List DV)(go0:K0.get oid=some (.arr ot 8 [.agg (.int .i64 o1::.int .i64 k::or)] oc)) :
  ∀(rest:List aX) (i:Nat) (f:dK) (K:aA),E.drop i=rest→f 6=.map mid→f 13=.ptr oid 8 0 0→f 168=eL t 7 aD E→f 169=.int .i64 E.length→f 170=.int .i64 i→Ext K0.n K0 K →
  (∀F H,(∀j∈[0,3,4,6,7,119,120,121],F j=f j)→Ext K0.n K0 H→P (ret D 243 S .normal F H)) →
  P (run D 243 (.block 5::S) (.loop We) f K):=by
 intro rest
 induction rest with
 | nil =>
  intro i f K hd f6 f13 f168 f169 f170 xx tQ
  have hi:=fY hd
  have:¬(i<E.length):=by omega
  rw[aO We.eq_1]
  simp[f169,f170,this]
  refine tQ _ _ (fun j hj=>?_) xx
  simp only[List.mem_cons,List.not_mem_nil,or_false]at hj
  rcases hj with rfl|rfl|rfl|rfl|rfl|rfl|rfl|rfl<;>simp
 | cons e rest ih =>
  intro i f K hd f6 f13 f168 f169 f170 xx tQ
  obtain⟨hi,he,nJ⟩:=iI hd
  have KQ:e∈E:=by rw[←he];exact List.getElem_mem hi
  have KA:IntKind.i64.wrap ((i:Int)+1)=(i:Int)+1:=bC (by omega) (by omega)
  have lK:=xx.lim
  have nK:=xx.le
  have wf:=xx.wf
  have lm:=aI gm0
  have lo:=aI go0
  have gm:=(xx.get mid lm).trans gm0
  have go:=(xx.get oid lo).trans go0
  have hlK:K.lim≤K.n:=by omega
  have n1:¬oid=K.n:=by omega
  rw[aO We.eq_1]
  simp[f6,f168,f169,f170,hi,he,hlK,wf,aD]
  generalize hF:upd _ 174 _=F1
  generalize hH:aA.push _ _=K1
  have xk:Ext K0.n K0 K1:=by rw[←hH];exact xx.push
  have gm1:K1.get mid=_:=(xk.get mid lm).trans gm0
  have go1:K1.get oid=_:=(xk.get oid lo).trans go0
  obtain⟨F2,hw,Io,wN⟩:=wa3 (S:=.seq HX::.block 6::.seq HW::.loop We::.block 5::S) F1 K1 xk.wf mid K.n 58 e M (hE e KQ) hM (by rw[←hF];simp) gm1 (by rw[←hF];simp) (by rw[←hH];simp[aD]) (by rw[←hF];simp)
  rw[hw]
  have b13:F2 13=.ptr oid 8 0 0:=by rw[wN 13 (by decide) (by decide),←hF];simp[f13]
  have b6:F2 6=.map mid:=by rw[wN 6 (by decide) (by decide),←hF];simp[f6]
  have b168:F2 168=eL t 7 aD E:=by rw[wN 168 (by decide) (by decide),←hF];simp[f168]
  have b169:F2 169=.int .i64 E.length:=by rw[wN 169 (by decide) (by decide),←hF];simp[f169]
  have b170:F2 170=.int .i64 i:=by rw[wN 170 (by decide) (by decide),←hF];simp[f170]
  have fin2:∀F',(∀j∈[0,3,4,6,7,119,120,121],F' j=F2 j)→F' 6=.map mid→F' 13=.ptr oid 8 0 0→F' 168=eL t 7 aD E→F' 169=.int .i64 E.length→F' 170=.int .i64 ((i+1:Nat):Int)→P (run D 243 (.block 5::S) (.loop We) F' K1):=fun F' gj g6 g13 g168 g169 g170 =>
   ih (i+1) F' K1 nJ g6 g13 g168 g169 g170 xk fun F3 H3 hj3 x3=>tQ F3 H3 (fun j hj=>by
    rw[hj3 j hj,gj j hj]
    simp only[List.mem_cons,List.not_mem_nil,or_false]at hj
    rcases hj with rfl|rfl|rfl|rfl|rfl|rfl|rfl|rfl<;>(rw[wN _ (by decide) (by decide),←hF];simp)) x3
  by_cases T7:iK M e.pred=true
  ·rw[T7]at Io
   simp[HX,HW,Io,b170,KA]
   generalize hF3:upd _ 170 _=F3
   refine fin2 F3 (fun j hj=>?_) (by rw[←hF3];simp[b6]) (by rw[←hF3];simp[b13]) (by rw[←hF3];simp[b168]) (by rw[←hF3];simp[b169]) (by rw[←hF3];simp)
   rw[←hF3]
   simp only[List.mem_cons,List.not_mem_nil,or_false]at hj
   rcases hj with rfl|rfl|rfl|rfl|rfl|rfl|rfl|rfl<;>simp
  ·have T7:iK M e.pred=false:=by simpa using T7
   have MJ:¬k=4:=fun h=>by rw[hcov h e KQ]at T7;cases T7
   rw[T7]at Io
   simp[HX,HW,Io,b13,b170,go1,MJ,KA]
   generalize hF3:upd _ 170 _=F3
   refine fin2 F3 (fun j hj=>?_) (by rw[←hF3];simp[b6]) (by rw[←hF3];simp[b13]) (by rw[←hF3];simp[b168]) (by rw[←hF3];simp[b169]) (by rw[←hF3];simp)
   rw[←hF3]
   simp only[List.mem_cons,List.not_mem_nil,or_false]at hj
   rcases hj with rfl|rfl|rfl|rfl|rfl|rfl|rfl|rfl<;>simp
end Go.Dm.Tc
/-
RouteAbove: the loop over messages;the last look at each entry.
-/
namespace Go.Dm.Tc
theorem II{t:ID}{b:aG}{M:List (ID×aZ)}{o:iW}(h:MV t b M o)(hn:(M.map (·.1)).Nodup):((kL M o).map (·.1)).Nodup:=by
 unfold kL
 split
 ·exact List.Pairwise.sublist (List.Sublist.map _ (List.filter_sublist ..)) hn
 ·rename_i hk
  have hx:o.id ∉ M.map (·.1):=fun hm=>hk (h.in_.1 hm)
  rw[zI hx,List.map_append]
  exact List.nodup_append.2 ⟨hn,by simp,fun a ha c hc e'=>by simp at hc;rw[hc]at e';exact hx (by rw[←e'];exact ha)⟩
theorem IG{M:List (ID×aZ)}{o:iW}(hM:∀y∈M,bM y.2)(ho:bM o.pred):∀y∈kL M o,bM y.2:=by
 unfold kL
 split
 ·exact fun y hy=>hM y (List.mem_filter.1 hy).1
 ·intro y hy
  have key:∀(M:List (ID×aZ)),(∀y∈M,bM y.2)→∀y∈Jg o.id o.pred M,bM y.2:=by
   intro M
   induction M with
   | nil=>intro _ y hy;simp[Jg]at hy;rw[hy];exact ho
   | cons z r ih =>
    intro hM y hy
    simp only[Jg]at hy
    split at hy
    ·rcases List.mem_cons.1 hy with rfl|hy
     ·exact ho
     ·exact hM y (List.mem_cons_of_mem _ hy)
    ·rcases List.mem_cons.1 hy with rfl|hy
     ·exact hM _ (List.mem_cons_self ..)
     ·exact ih (fun w hw=>hM w (List.mem_cons_of_mem _ hw)) y hy
  exact key M hM y hy
theorem Upd.extM{a b c:aA}{F G:List Nat}(u:Upd a b F G)(e:Ext b.n b c):Upd a c F G :=
 ⟨Nat.le_trans u.n e.le,e.lim.trans u.lim,e.wf,fun i hi hn=>(e.get i (Nat.lt_of_lt_of_le hi u.n)).trans (u.old i hi hn),u.fp⟩
set_option maxHeartbeats 8000000 in
theorem lm3(P:Res→Prop)(S:List Fr)(t:ID)(b:aG)(hz:mK b)(hpe:∀e∈b.entries,bM e.pred)(gZ:List iW)(hol:gZ.length≤100000)(KH:∀o∈gZ,bM o.pred)(mid b4 t3:Nat)(h0:aA)(G0:h0.lim=0)(tb:Nat)(cb:Option Nat)(gb:h0.get b4=some (.arr tb 6 [aQ .none b] cb))(gt:h0.get t3=some (.arr 24 2 [.agg [.int .i64 t.bS,.int .i64 t.seq]] (some 1)))(nb:b4≠mid)(nt:t3≠mid)(lmid:mid<h0.n) :
  ∀(rest:List iW) (i:Nat) (f:dK) (K:aA) (M:List (ID×aZ)),gZ.drop i=rest→pZ t b M rest→(M.map (·.1)).Nodup→(∀y∈M,bM y.2)→f 3=.ptr t3 2 0 0→f 4=.ptr b4 6 0 0→f 6=.map mid→f 119=eL false 8 jA gZ→f 120=.int .i64 gZ.length→f 121=.int .i64 i →
  Upd h0 K [mid] [mid]→K.get mid=some (.mp (fP (eP M))) →
  (∀F H,(∀j∈[0,3,4,6,7],F j=f j)→Upd h0 H [mid] [mid]→H.get mid=some (.mp (fP (eP (rest.foldl kL M))))→P (run D 243 S BA F H)) →
  P (run D 243 (.block 3::.seq BA::S) (.loop AY) f K):=by
 intro rest
 induction rest with
 | nil =>
  intro i f K M hd _ _ _ f3 f4 f6 f119 f120 f121 U gm tQ
  have hi:=fY hd
  have:¬(i<gZ.length):=by omega
  rw[aO AY.eq_1]
  simp[f120,f121,this]
  refine tQ _ _ (fun j hj=>?_) U (by simpa using gm)
  simp only[List.mem_cons,List.not_mem_nil,or_false]at hj
  rcases hj with rfl|rfl|rfl|rfl|rfl<;>simp
 | cons o rest ih =>
  intro i f K M hd MI Vm hpr f3 f4 f6 f119 f120 f121 U gm tQ
  obtain⟨hi,he,nJ⟩:=iI hd
  have OS:o∈gZ:=by rw[←he];exact List.getElem_mem hi
  cases MI with
  | cons hmsg MI =>
  have KA:IntKind.i64.wrap ((i:Int)+1)=(i:Int)+1:=bC (by omega) (by omega)
  obtain⟨oto,okd,otr,oid,opr⟩:=o
  have hto:oto=1:=hmsg.to
  have htr:t=otr:=hmsg.tree.symm
  subst hto;subst htr
  have lK:=U.lim
  have nK:=U.n
  have wf:=U.wf
  have hlK:K.lim≤K.n:=by omega
  have lb:=aI gb
  have lt:=aI gt
  have gbK:K.get b4=_:=(U.old b4 lb (by simpa using nb)).trans gb
  have gtK:K.get t3=_:=(U.old t3 lt (by simpa using nt)).trans gt
  have n1:¬b4=K.n:=by omega
  have n2:¬t3=K.n:=by omega
  have n3:¬mid=K.n:=by omega
  have Vn:K.lim≤mid:=by omega
  have hnd2:((eP M).map (·.1)).Nodup:=by rw[H6];exact Vm
  have zW:nF (.agg [1,1]) .nsl true (.agg [.int .i64 oid.bS,.int .i64 oid.seq]) (some (fP (eP M)))=_:=Gg hnd2 .nsl true oid
  have jQ:=Zx oid M
  have hnd':=II hmsg Vm
  have hpr':=IG (o:=⟨1,okd,t,oid,opr⟩) hpr (KH _ OS)
  obtain⟨K1,hK1⟩:∃ K1,K1=(K.set mid (.mp (fP (eP (kL M ⟨1,okd,t,oid,opr⟩))))).push (.arr 54 8 [.agg [.int .i64 1,.int .i64 okd,.int .i64 t.bS,.int .i64 t.seq,.int .i64 oid.bS,.int .i64 oid.seq,bO opr,.isl false 0 []]] (some 1)):=⟨_,rfl⟩
  have lmK:mid<K.n:=by omega
  have U1:Upd h0 K1 [mid] [mid]:=by rw[hK1];exact((U.set (.inl (by simp)) lmK).push _)
  have gm1:K1.get mid=some (.mp (fP (eP (kL M ⟨1,okd,t,oid,opr⟩)))):=by rw[hK1,bP (by simp;omega),Gy wf lmK,if_pos rfl]
  have go1:K1.get K.n=some (.arr 54 8 [.agg [.int .i64 1,.int .i64 okd,.int .i64 t.bS,.int .i64 t.seq,.int .i64 oid.bS,.int .i64 oid.seq,bO opr,.isl false 0 []]] (some 1)):=by rw[hK1];simp
  have gb1:K1.get b4=_:=(U1.old b4 lb (by simpa using nb)).trans gb
  have gt1:K1.get t3=_:=(U1.old t3 lt (by simpa using nt)).trans gt
  have kOfB:=kOf .none hz t.bS t.seq
  have hEl:(ofT t b.entries).length≤b.entries.length:=List.length_filter_le ..
  have hEn:=hz.ent
  have fin0:∀F1,F1 6=.map mid→F1 13=.ptr K.n 8 0 0→F1 168=eL false 7 aD (ofT t b.entries)→F1 169=.int .i64 (ofT t b.entries).length→F1 170=.int .i64 0→F1 119=eL false 8 jA gZ→F1 120=.int .i64 gZ.length→F1 121=.int .i64 i→(∀j∈[0,3,4,6,7],F1 j=f j) →
    P (run D 243 (.block 5::.block 4::.seq NL::.loop AY::.block 3::.seq BA::S) (.loop We) F1 K1):=fun F1 g6 g13 g168 g169 g170 g119 g120 g121 gj=>by
   refine l03 P _ false (ofT t b.entries) (fun e he=>hpe e (List.mem_filter.1 he).1) (by omega) (kL M ⟨1,okd,t,oid,opr⟩) hpr' okd hmsg.cov mid K.n K1 (by rw[U1.lim];exact G0) gm1 54 (some 1) 1 _ go1 (ofT t b.entries) 0 F1 K1 rfl g6 g13 g168 g169 g170 (Ext.refl (Nat.le_refl _) U1.wf) fun F2 H2 Dg x2=>?_
   have c121:F2 121=.int .i64 i:=by rw[Dg 121 (by simp)];exact g121
   simp[NL,c121,KA]
   generalize hF3:upd _ 121 _=F3
   have kj:∀j∈[0,3,4,6,7],F3 j=f j:=fun j hj=>by
    have h1:F3 j=F2 j:=by
     rw[←hF3]
     simp only[List.mem_cons,List.not_mem_nil,or_false]at hj
     rcases hj with rfl|rfl|rfl|rfl|rfl<;>simp
    rw[h1,Dg j (by simp only[List.mem_cons,List.not_mem_nil,or_false]at hj ⊢;omega)]
    exact gj j hj
   have gm2:H2.get mid=_:=(x2.get mid (aI gm1)).trans gm1
   exact ih (i+1) F3 H2 (kL M ⟨1,okd,t,oid,opr⟩) nJ MI hnd' hpr' (by rw[kj 3 (by simp)];exact f3) (by rw[kj 4 (by simp)];exact f4) (by rw[kj 6 (by simp)];exact f6) (by rw[←hF3];simp[Dg 119 (by simp),g119]) (by rw[←hF3];simp[Dg 120 (by simp),g120]) (by rw[←hF3];simp) (U1.extM x2) gm2 fun F H k1 k2 k3=>tQ F H (fun j hj=>(k1 j hj).trans (kj j hj)) k2 k3
  rw[aO AY.eq_1]
  by_cases MJ:okd=4
  ·have MJ:okd=4:=MJ
   subst MJ
   obtain⟨pp,KG⟩:=jQ.1 (hmsg.in_.2 rfl)
   rw[KG]at zW
   have hdel:=fun(h:aA) g l=>LK (h:=h) (id:=mid) (ms:=eP M) g hnd2 l oid
   rw[FI oid M Vm]at hdel
   have Te:kL M ⟨1,4,t,oid,opr⟩=FN oid M:=by simp[kL]
   rw[Te]at hK1
   have hg1:∀o',(K.push o').get mid=some (.mp (fP (eP M))):=fun o'=>by rw[bP (by omega)];exact gm
   have Zc:=fun o'=>hdel (K.push o') (hg1 o') (by simpa using Vn)
   simp[f3,f4,f6,f119,f120,f121,hi,he,jA,hlK,wf,gm,n1,n2,n3,gtK,gbK,iH,lL,zW,Q9,Zc,Vn,lmK]
   rw[←hK1]
   simp[f3,f4,f6,nb,nt,gb1,gt1,e14,kOfB]
   generalize hF:upd _ 170 _=F1
   refine fin0 F1 (by rw[←hF];simp[f6]) (by rw[←hF];simp) (by rw[←hF];simp) (by rw[←hF];simp) (by rw[←hF];simp) (by rw[←hF];simp[f119]) (by rw[←hF];simp[f120]) (by rw[←hF];simp[f121]) fun j hj=>?_
   rw[←hF]
   simp only[List.mem_cons,List.not_mem_nil,or_false]at hj
   rcases hj with rfl|rfl|rfl|rfl|rfl<;>simp
  ·have OU:oid ∉ M.map (·.1):=fun h=>MJ (hmsg.in_.1 h)
   rw[jQ.2 OU]at zW
   have wM:=fun(H:aA) (hl:H.lim≤mid) (x:DV)=>HD (h:=H) (id:=mid) hnd2 hl oid x
   simp only[kID]at wM
   have Te:kL M ⟨1,okd,t,oid,opr⟩=Jg oid opr M:=by simp[kL,MJ]
   rw[Te]at hK1
   simp[f3,f4,f6,f119,f120,f121,hi,he,jA,hlK,wf,gm,n1,n2,n3,gtK,gbK,iH,lL,zW,MJ,Bx,wM,Vn,FH,lmK]
   rw[←hK1]
   simp[f3,f4,f6,nb,nt,gb1,gt1,e14,kOfB]
   generalize hF:upd _ 170 _=F1
   refine fin0 F1 (by rw[←hF];simp[f6]) (by rw[←hF];simp) (by rw[←hF];simp) (by rw[←hF];simp) (by rw[←hF];simp) (by rw[←hF];simp[f119]) (by rw[←hF];simp[f120]) (by rw[←hF];simp[f121]) fun j hj=>?_
   rw[←hF]
   simp only[List.mem_cons,List.not_mem_nil,or_false]at hj
   rcases hj with rfl|rfl|rfl|rfl|rfl<;>simp
end Go.Dm.Tc
/-
RouteAbove: the last look at each entry;call after call.
-/
namespace Go.Dm.Tc
set_option maxHeartbeats 4000000 in
theorem lz3(P:Res→Prop)(S:List Fr)(E:List aX)(hE:∀e∈E,bM e.pred)(hEl:E.length≤100000)(M:List (ID×aZ))(Vm:(M.map (·.1)).Nodup)(hM:∀y∈M,bM y.2)(hcov:∀e∈E,iK M e.pred=true)(wM:∀e∈E,(e.sub∈M.map (·.1))↔e.up=true)(mid:Nat)(K0:aA)(G0:K0.lim=0)(gm0:K0.get mid=some (.mp (fP (eP M)))) :
  ∀(rest:List aX) (i:Nat) (f:dK) (K:aA),E.drop i=rest→f 6=.map mid→f 199=eL false 7 aD E→f 200=.int .i64 E.length→f 201=.int .i64 i→Ext K0.n K0 K →
  (∀F H,(∀j∈[0,3,4,6,7],F j=f j)→Ext K0.n K0 H→P (ret D 243 S .normal F H)) →
  P (run D 243 (.block 9::S) (.loop L3) f K):=by
 intro rest
 induction rest with
 | nil =>
  intro i f K hd f6 f199 f200 f201 xx tQ
  have hi:=fY hd
  have:¬(i<E.length):=by omega
  rw[aO L3.eq_1]
  simp[f200,f201,this]
  refine tQ _ _ (fun j hj=>?_) xx
  simp only[List.mem_cons,List.not_mem_nil,or_false]at hj
  rcases hj with rfl|rfl|rfl|rfl|rfl<;>simp
 | cons e rest ih =>
  intro i f K hd f6 f199 f200 f201 xx tQ
  obtain⟨hi,he,nJ⟩:=iI hd
  have KQ:e∈E:=by rw[←he];exact List.getElem_mem hi
  have KA:IntKind.i64.wrap ((i:Int)+1)=(i:Int)+1:=bC (by omega) (by omega)
  have lK:=xx.lim
  have nK:=xx.le
  have wf:=xx.wf
  have lm:=aI gm0
  have gm:=(xx.get mid lm).trans gm0
  have hlK:K.lim≤K.n:=by omega
  have n1:¬mid=K.n:=by omega
  rw[aO L3.eq_1]
  simp[f6,f199,f200,f201,hi,he,hlK,wf,aD]
  generalize hF:upd _ 205 _=F1
  generalize hH:aA.push _ _=K1
  have xk:Ext K0.n K0 K1:=by rw[←hH];exact xx.push
  have gm1:K1.get mid=_:=(xk.get mid lm).trans gm0
  have ge1:K1.get K.n=some (.arr 58 7 [aD e] (some 1)):=by rw[←hH];simp[aD]
  obtain⟨F2,hw,Io,wN⟩:=wb3 (S:=.seq HV::.block 10::.seq HU::.loop L3::.block 9::S) F1 K1 xk.wf mid K.n 58 e M (hE e KQ) hM (by rw[←hF];simp) gm1 (by rw[←hF];simp) ge1 (by rw[←hF];simp)
  rw[hw]
  rw[hcov e KQ]at Io
  have b6:F2 6=.map mid:=by rw[wN 6 (by decide) (by decide),←hF];simp[f6]
  have b22:F2 22=.ptr K.n 7 0 0:=by rw[wN 22 (by decide) (by decide),←hF];simp
  have b199:F2 199=eL false 7 aD E:=by rw[wN 199 (by decide) (by decide),←hF];simp[f199]
  have b200:F2 200=.int .i64 E.length:=by rw[wN 200 (by decide) (by decide),←hF];simp[f200]
  have b201:F2 201=.int .i64 i:=by rw[wN 201 (by decide) (by decide),←hF];simp[f201]
  have fin2:∀F',(∀j∈[0,3,4,6,7],F' j=F2 j)→F' 6=.map mid→F' 199=eL false 7 aD E→F' 200=.int .i64 E.length→F' 201=.int .i64 ((i+1:Nat):Int)→P (run D 243 (.block 9::S) (.loop L3) F' K1):=fun F' gj g6 g199 g200 g201 =>
   ih (i+1) F' K1 nJ g6 g199 g200 g201 xk fun F3 H3 hj3 x3=>tQ F3 H3 (fun j hj=>by
    rw[hj3 j hj,gj j hj]
    simp only[List.mem_cons,List.not_mem_nil,or_false]at hj
    rcases hj with rfl|rfl|rfl|rfl|rfl<;>(rw[wN _ (by decide) (by decide),←hF];simp)) x3
  have hnd2:((eP M).map (·.1)).Nodup:=by rw[H6];exact Vm
  have zW:nF (.agg [1,1]) .nsl true (.agg [.int .i64 e.sub.bS,.int .i64 e.sub.seq]) (some (fP (eP M)))=_:=Gg hnd2 .nsl true e.sub
  have jQ:=Zx e.sub M
  simp only[aD]at ge1
  cases hu:e.up with
  | true =>
   obtain⟨pp,KG⟩:=jQ.1 ((wM e KQ).2 hu)
   rw[KG]at zW
   rw[hu]at ge1
   simp[HV,HU,Io,b6,b22,b201,ge1,gm1,iH,lL,zW,KA]
   generalize hF3:upd _ 201 _=F3
   refine fin2 F3 (fun j hj=>?_) (by rw[←hF3];simp[b6]) (by rw[←hF3];simp[b199]) (by rw[←hF3];simp[b200]) (by rw[←hF3];simp)
   rw[←hF3]
   simp only[List.mem_cons,List.not_mem_nil,or_false]at hj
   rcases hj with rfl|rfl|rfl|rfl|rfl<;>simp
  | false =>
   have OU:e.sub ∉ M.map (·.1):=fun h=>by rw[(wM e KQ).1 h]at hu;cases hu
   rw[jQ.2 OU]at zW
   rw[hu]at ge1
   simp[HV,HU,Io,b6,b22,b201,ge1,gm1,iH,lL,zW,KA]
   generalize hF3:upd _ 201 _=F3
   refine fin2 F3 (fun j hj=>?_) (by rw[←hF3];simp[b6]) (by rw[←hF3];simp[b199]) (by rw[←hF3];simp[b200]) (by rw[←hF3];simp)
   rw[←hF3]
   simp only[List.mem_cons,List.not_mem_nil,or_false]at hj
   rcases hj with rfl|rfl|rfl|rfl|rfl<;>simp
structure RaH(t:ID)(K:aA)(t3 b4 mid:Nat)(b:aG)(M:List (ID×aZ)):Prop where
 wf:WF K
 lim:K.lim=0
 gt:K.get t3=some (.arr 24 2 [.agg [.int .i64 t.bS,.int .i64 t.seq]] (some 1))
 gb:K.get b4=some (.arr 31 6 [aQ .none b] (some 1))
 gm:K.get mid=some (.mp (fP (eP M)))
 nb:b4≠mid
 nt:t3≠mid
 ntb:t3≠b4
set_option maxHeartbeats 4000000 in
theorem ls3(P:Res→Prop)(S:List Fr)(t:ID){t3 b4 mid n:Nat}{K:aA}{M:List (ID×aZ)}{r:aG×List iW}(hs:rR t M n r)(hn:n≤100)(hM:∀y∈M,bM y.2)(Vm:(M.map (·.1)).Nodup)(hol:r.2.length≤100000)(A:RaH t K t3 b4 mid r.1 M)(f:dK)(f3:f 3=.ptr t3 2 0 0)(f4:f 4=.ptr b4 6 0 0)(f6:f 6=.map mid)(f11:f 11=eL false 8 jA r.2)
  (tQ:∀F H,(∀j∈[0,3,4,6,7],F j=f j)→RaH t H t3 b4 mid r.1 (r.2.foldl kL M)→P (ret D 243 S .normal F H)) :
  P (run D 243 S HT f K):=by
 have hz:mK r.1:=hs.b.z.sized (by omega)
 simp[HT,f11]
 generalize hF:upd _ 121 _=F1
 refine lm3 P S t r.1 hz (fun e he=>hs.b.l.k.pe e he) r.2 hol hs.pr mid b4 t3 K A.lim _ _ A.gb A.gt A.nb A.nt (aI A.gm) r.2 0 F1 K M rfl hs.ok Vm hM (by rw[←hF];simp[f3]) (by rw[←hF];simp[f4]) (by rw[←hF];simp[f6]) (by rw[←hF];simp) (by rw[←hF];simp) (by rw[←hF];simp) (Upd.refl A.wf _) A.gm fun F2 H2 Dg U2 gm2=>?_
 have kj:∀j∈[0,3,4,6,7],F2 j=f j:=fun j hj=>by
  rw[Dg j hj,←hF]
  simp only[List.mem_cons,List.not_mem_nil,or_false]at hj
  rcases hj with rfl|rfl|rfl|rfl|rfl<;>simp
 have a3:F2 3=.ptr t3 2 0 0:=(kj 3 (by simp)).trans f3
 have a4:F2 4=.ptr b4 6 0 0:=(kj 4 (by simp)).trans f4
 have a6:F2 6=.map mid:=(kj 6 (by simp)).trans f6
 have gb2:H2.get b4=_:=(U2.old b4 (aI A.gb) (by simpa using A.nb)).trans A.gb
 have gt2:H2.get t3=_:=(U2.old t3 (aI A.gt) (by simpa using A.nt)).trans A.gt
 have kOfB:=kOf .none hz t.bS t.seq
 have hEl:(ofT t r.1.entries).length≤r.1.entries.length:=List.length_filter_le ..
 have hEn:=hz.ent
 simp[BA,a3,a4,gb2,gt2,e14,kOfB]
 generalize hF3:upd _ 201 _=F3
 refine lz3 P S (ofT t r.1.entries) (fun e he=>hs.b.l.k.pe e (List.mem_filter.1 he).1) (by omega) (r.2.foldl kL M) hs.b.s.nd hs.b.preds (fun e he=>hs.b.l.covered hs.b.s (List.mem_filter.1 he).1) (fun e he=>hs.b.s.end_ hs.b.l (List.mem_filter.1 he).1) mid H2 (by rw[U2.lim];exact A.lim) gm2 (ofT t r.1.entries) 0 F3 H2 rfl (by rw[←hF3];simp[a6]) (by rw[←hF3];simp) (by rw[←hF3];simp) (by rw[←hF3];simp) (Ext.refl (Nat.le_refl _) U2.wf) fun F4 H4 hj4 x4=>?_
 refine tQ F4 H4 (fun j hj=>?_) ⟨x4.wf,by rw[x4.lim,U2.lim];exact A.lim,(x4.get t3 (aI gt2)).trans gt2,(x4.get b4 (aI gb2)).trans gb2,(x4.get mid (aI gm2)).trans gm2,A.nb,A.nt,A.ntb⟩
 rw[hj4 j hj,←kj j hj,←hF3]
 simp only[List.mem_cons,List.not_mem_nil,or_false]at hj
 rcases hj with rfl|rfl|rfl|rfl|rfl<;>simp
end Go.Dm.Tc
