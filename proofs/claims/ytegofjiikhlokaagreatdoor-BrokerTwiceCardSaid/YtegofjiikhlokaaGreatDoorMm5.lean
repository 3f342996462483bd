/- A part of the proof. -/
import Derived.Test.YtegofjiikhlokaaGreatDoorMm4
import Derived.Test.YtegofjiikhlokaaGreatDoorMm3
import Derived.ChangeArms
import Derived.ChangeSame
set_option linter.all false
namespace Go.Dm
theorem yR{lo:Nat}{h:aA}{v:DV}{ety sz bytes:Nat}{ys:List DV}{A:Option (DV×aA)}(he:elems h sz v=some ys)(wf:WF h)(dS:lo≤h.n)(aL:h.lim≤h.n)(hb:ys.length*bytes≤140737488355328)(Bt:1≤bytes)(hA:dN ety sz bytes h [v]=A) :
  ∃ v' h',A=some (v',h')∧Own lo h' v' ety sz ys∧Ext lo h h'∧Ext h.n h h':=by
 have hm:ys.length≤140737488355328:=Nat.le_trans (Nat.le_mul_of_pos_right _ Bt) hb
 subst hA
 by_cases hy:ys=[]
 ·subst hy
  refine⟨.nsl,h.push .dead,?_,.nil rfl rfl,(Ext.refl dS wf).push,(Ext.refl (Nat.le_refl _) wf).push⟩
  simp[dN,he]
 ·have So:ys.isEmpty=false:=by cases ys<;>simp_all
  refine⟨.sl (h.n+1) sz 0 ys.length,(h.push (.arr ety sz [] (some 0))).push (.arr ety sz ys none),?_,.arr (h.n+1) rfl ?_ ?_ (by omega),((Ext.refl dS wf).push).push,((Ext.refl (Nat.le_refl _) wf).push).push⟩
  ·simp only[dN,he,So]
   rw[if_neg (by simp),if_pos ⟨hb,by omega⟩]
  ·exact cR
  ·show h.lim≤h.n+1
   omega
inductive OwnR(lo:Nat)(h:aA)(v:DV)(ety sz:Nat)(xs:List DV):Prop where
 | nil (hv:v=.nsl) (hx:xs=[])
 | arr (id:Nat) (sp:List DV) (cap:Option Nat) (hv:v=.sl id sz 0 xs.length) (hg:h.get id=some (.arr ety sz (xs++sp) cap)) (aL:h.lim≤id) (dS:lo≤id)
theorem Own.toR{lo:Nat}{h:aA}{v:DV}{ety sz:Nat}{xs:List DV}(w:Own lo h v ety sz xs):OwnR lo h v ety sz xs:=by
 cases w with
 | nil hv hx=>exact .nil hv hx
 | arr id hv hg hl hi=>exact .arr id [] none hv (by simpa using hg) hl hi
section OwnR
variable {lo:Nat} {h:aA} {v:DV} {ety sz:Nat} {xs:List DV}
theorem OwnR.push{o:DO}(w:OwnR lo h v ety sz xs):OwnR lo (h.push o) v ety sz xs:=by
 cases w with
 | nil hv hx=>exact .nil hv hx
 | arr id sp cap hv hg aL dS =>
  refine .arr id sp cap hv ?_ aL dS
  rw[cM,if_neg (by have:=bB hg;omega)];exact hg
theorem OwnR.ext{h':aA}(w:OwnR lo h v ety sz xs)(x:Ext h.n h h'):OwnR lo h' v ety sz xs:=by
 cases w with
 | nil hv hx=>exact .nil hv hx
 | arr id sp cap hv hg hl hi=>exact .arr id sp cap hv ((x.get id (bB hg)).trans hg) (by rw[x.lim];exact hl) hi
theorem OwnR.lenV(w:OwnR lo h v ety sz xs):lenV h 1 v=some (.int .i64 xs.length):=by
 cases w with
 | nil hv hx=>subst hv;subst hx;rfl
 | arr id sp cap hv hg hl hi=>subst hv;rfl
theorem OwnR.elems(w:OwnR lo h v ety sz xs):elems h sz v=some xs:=by
 cases w with
 | nil hv hx=>subst hv;subst hx;rfl
 | arr id sp cap hv hg hl hi=>subst hv;simp[Dm.elems,hg]
theorem OwnR.resolve{α:Type}{e:α→DV}{ys:List α}{k n:Nat}(tag:Bool)(w:OwnR lo h v ety sz (ys.map e))(hf:∀y∈ys,jP k (e y))(hn:k+1≤n):resolve tag h n v=some (eL tag sz e ys):=by
 obtain⟨m,rfl,hm⟩:=cL hn
 cases w with
 | nil hv hx =>
  subst hv
  cases ys with
  | nil=>rfl
  | cons y r=>simp at hx
 | arr id sp cap hv hg hl hi =>
  subst hv
  have Du:(ys.map e).mapM (Dm.resolve tag h m)=some (ys.map e):=pJ fun x hx=>by
   obtain⟨y,hy,rfl⟩:=List.mem_map.1 hx
   exact hf y hy tag h m hm
  simp only[Dm.resolve,hg,true_and,Nat.zero_add,List.length_append,Nat.le_add_right,if_true,List.drop_zero,List.take_left,Du]
  rfl
theorem OwnR.bD(w:OwnR lo h v ety sz xs):bD 1 v=true:=by
 cases w with
 | nil hv hx=>subst hv;rfl
 | arr id sp cap hv hg hl hi=>subst hv;rfl
theorem OwnR.aP(w:OwnR lo h v ety sz xs):aP 1 v=[v]:=by
 cases w with
 | nil hv hx=>subst hv;rfl
 | arr id sp cap hv hg hl hi=>subst hv;rfl
theorem OwnR.out{α:Type}{e:α→DV}{ys:List α}{k:Nat}(w:OwnR lo h v ety sz (ys.map e))(hf:∀y∈ys,jP k (e y))(hu:∀y∈ys,Unl k (e y))(hk:k≤198) :
  cW (some (v,h))=some (eL false sz e ys) :=
 Wu (k:=k+1) (w.resolve false hf (by show k+1≤200;omega)) (eS hu) (by omega)
theorem OwnR.index(w:OwnR lo h v ety sz xs){i:Nat}{x:DV}(hx:xs[i]?=some x)(k:IntKind) :
  ∃ id sp cap,v=.sl id sz 0 xs.length∧h.get id=some (.arr ety sz (xs++sp) cap)∧h.lim≤id∧lo≤id∧bQ sz v (.int k (i:Int))=some (.ptr id sz i 0)∧(xs++sp)[i]?=some x:=by
 have hi:i<xs.length:=by
  by_cases bC:i<xs.length
  ·exact bC
  ·rw[List.getElem?_eq_none (by omega)]at hx;cases hx
 cases w with
 | nil hv uG=>subst uG;simp at hi
 | arr id sp cap hv hg hl dS =>
  refine⟨id,sp,cap,hv,hg,hl,dS,?_,by rw[List.getElem?_append_left hi];exact hx⟩
  subst hv
  simp[bQ,asI,hi]
end OwnR
theorem Own.bD{lo:Nat}{h:aA}{v:DV}{ety sz:Nat}{xs:List DV}(w:Own lo h v ety sz xs):bD 1 v=true:=w.toR.bD
theorem Own.aP{lo:Nat}{h:aA}{v:DV}{ety sz:Nat}{xs:List DV}(w:Own lo h v ety sz xs):aP 1 v=[v]:=w.toR.aP
theorem Own.wl{lo:Nat}{h:aA}{v:DV}{ety sz:Nat}{xs:List DV}(w:Own lo h v ety sz xs){m:Nat}(hm:m≤lo):Own lo (Dm.wl h m) v ety sz xs:=by
 cases w with
 | nil hv hx=>exact .nil hv hx
 | arr id hv hg hl hi=>exact .arr id hv hg (Nat.le_trans hm hi) hi
theorem Own.aU{lo:Nat}{h:aA}{v:DV}{ety sz:Nat}{xs:List DV}(w:Own lo h v ety sz xs)(wf:WF h){id:Nat}{o:DO}(fI:id<lo)(hn:id<h.n):Own lo (h.set id o) v ety sz xs:=by
 cases w with
 | nil hv hx=>exact .nil hv hx
 | arr k hv hg hl hi=>exact .arr k hv (by rw[bY wf hn,if_neg (by omega)];exact hg) hl hi
theorem Own.lower{lo lo':Nat}{h:aA}{v:DV}{ety sz:Nat}{xs:List DV}(w:Own lo h v ety sz xs)(hl:lo'≤lo):Own lo' h v ety sz xs:=by
 cases w with
 | nil hv hx=>exact .nil hv hx
 | arr k hv hg aL hi=>exact .arr k hv hg aL (Nat.le_trans hl hi)
theorem Ext.wl{lo:Nat}{h h':aA}(x:Ext lo h h')(m:Nat)(hm:m=h.lim):Ext lo h (Dm.wl h' m):=⟨x.le,hm,x.get,x.wf⟩
theorem Ext.lower{lo lo':Nat}{h h':aA}(x:Ext lo h h')(hl:lo'≤lo):Ext lo' h h':=⟨Nat.le_trans hl x.le,x.lim,fun id fI=>x.get id (by omega),x.wf⟩
theorem Do{lo m:Nat}{h:aA}{v:DV}{ety sz bytes:Nat}{ys:List DV}{A:Option (DV×aA)}(hA:dN ety sz bytes (Dm.wl h m) [v]=A)(he:elems h sz v=some ys)(wf:WF h)(dS:lo≤h.n)(hm:m≤h.n)(aL:h.lim≤h.n)(hb:ys.length*bytes≤140737488355328)(Bt:1≤bytes) :
  ∃ v' h',A=some (v',h')∧Own lo (Dm.wl h' h.lim) v' ety sz ys∧Ext lo h (Dm.wl h' h.lim)∧Ext h.n h (Dm.wl h' h.lim):=by
 have kL:elems (Dm.wl h m) sz v=some ys:=he
 obtain⟨v',h',e,o,x,y⟩:=yR (lo:=h.n) (h:=Dm.wl h m) kL (wf.wl m) (Nat.le_refl _) hm hb Bt hA
 exact⟨v',h',e,(o.wl aL).lower dS,⟨Nat.le_trans dS x.le,rfl,fun id fI=>x.get id (by omega),x.wf⟩,⟨x.le,rfl,x.get,x.wf⟩⟩
def iF(ety:Nat)(h h':aA):Prop:=∀k o,h.get k=some o→(∀s xs c,o≠.arr ety s xs c)→h'.get k=some o
theorem iF.refl(ety:Nat)(h:aA):iF ety h h:=fun _ _ h _=>h
theorem iF.push{ety:Nat}{h h':aA}{o:DO}(x:iF ety h h'):iF ety h (h'.push o):=fun k ob hg eG=>by
 have:=x k ob hg eG
 rw[cM,if_neg (by have:=bB this;omega)];exact this
theorem iF.set{ety:Nat}{h h':aA}{id s:Nat}{xs:List DV}{c:Option Nat}{o:DO}(x:iF ety h h')(w:WF h')(hg:h.get id=some (.arr ety s xs c))(fI:id<h'.n):iF ety h (h'.set id o):=fun k ob hk eG=>by
 have SU:k≠id:=by
  intro e
  subst e
  rw[hg]at hk
  injection hk with hk
  exact eG _ _ _ hk.symm
 rw[bY w fI,if_neg SU]
 exact x k ob hk eG
theorem Own.keep{lo:Nat}{h h':aA}{v:DV}{ety e2 sz:Nat}{xs:List DV}(w:Own lo h v e2 sz xs)(x:iF ety h h')(hl:h'.lim=h.lim)(eG:e2≠ety):Own lo h' v e2 sz xs:=by
 cases w with
 | nil hv hx=>exact .nil hv hx
 | arr id hv hg aL dS =>
  exact .arr id hv (x _ _ hg (fun s ys c e=>by injection e with e1;exact eG e1)) (by rw[hl];exact aL) dS
theorem OwnR.keep{lo:Nat}{h h':aA}{v:DV}{ety e2 sz:Nat}{xs:List DV}(w:OwnR lo h v e2 sz xs)(x:iF ety h h')(hl:h'.lim=h.lim)(eG:e2≠ety):OwnR lo h' v e2 sz xs:=by
 cases w with
 | nil hv hx=>exact .nil hv hx
 | arr id sp cap hv hg aL dS =>
  exact .arr id sp cap hv (x _ _ hg (fun s ys c e=>by injection e with e1;exact eG e1)) (by rw[hl];exact aL) dS
theorem OwnR.aU{lo:Nat}{h:aA}{v:DV}{ety sz:Nat}{xs:List DV}(w:OwnR lo h v ety sz xs)(wf:WF h){id:Nat}{o:DO}(fI:id<lo)(hn:id<h.n):OwnR lo (h.set id o) v ety sz xs:=by
 cases w with
 | nil hv hx=>exact .nil hv hx
 | arr k sp cap hv hg hl hi=>exact .arr k sp cap hv (by rw[bY wf hn,if_neg (by omega)];exact hg) hl hi
theorem OwnR.lower{lo lo':Nat}{h:aA}{v:DV}{ety sz:Nat}{xs:List DV}(w:OwnR lo h v ety sz xs)(hl:lo'≤lo):OwnR lo' h v ety sz xs:=by
 cases w with
 | nil hv hx=>exact .nil hv hx
 | arr k sp cap hv hg aL hi=>exact .arr k sp cap hv hg aL (Nat.le_trans hl hi)
theorem kO{h:aA}{id ety sz bytes len:Nat}{xs ys:List DV}{cap:Option Nat}(hg:h.get id=some (.arr ety sz xs cap))(cH:len+ys.length≤xs.length)(aL:h.lim≤id)(hb:(len+ys.length)*bytes≤140737488355328)(Bt:1≤bytes)(hy:ys≠[]) :
  aY h ety sz bytes (.sl id sz 0 len) ys=some (.sl id sz 0 (len+ys.length),h.set id (.arr ety sz (dD xs ys len) cap)):=by
 have hm:len+ys.length≤140737488355328:=Nat.le_trans (Nat.le_mul_of_pos_right _ Bt) hb
 have So:ys.isEmpty=false:=by cases ys<;>simp_all
 simp only[aY,So,hg,Bool.false_eq_true,if_false,true_and,Nat.zero_add]
 rw[if_pos ⟨by omega,hb,by omega⟩,if_pos cH,if_pos aL]
theorem gZ{h:aA}{id ety sz bytes len c:Nat}{xs ys:List DV}(hg:h.get id=some (.arr ety sz xs (some c)))(hl:len≤xs.length)(cH:xs.length<len+ys.length)(hb:(len+ys.length)*bytes≤140737488355328)(Bt:1≤bytes)(hy:ys≠[]) :
  aY h ety sz bytes (.sl id sz 0 len) ys=some (.sl h.n sz 0 (len+ys.length),h.push (.arr ety sz (xs.take len++ys) none)):=by
 have hm:len+ys.length≤140737488355328:=Nat.le_trans (Nat.le_mul_of_pos_right _ Bt) hb
 have So:ys.isEmpty=false:=by cases ys<;>simp_all
 simp only[aY,So,hg,Bool.false_eq_true,if_false,true_and,Nat.zero_add,List.drop_zero]
 rw[if_pos ⟨hl,hb,by omega⟩,if_neg (by omega)]
theorem yM(X:List DV)(u:DV)(i:Nat)(hi:i<X.length):dD (X++[u]) (List.take (X.length-i) (List.take (X.length+1-i) (List.drop i (X++[u])))) (i+1)=X.take (i+1)++X.drop i:=by
 have e1:List.take (X.length-i) (List.take (X.length+1-i) (List.drop i (X++[u])))=X.drop i:=by
  rw[List.take_take,Nat.min_eq_left (by omega),List.drop_append_of_le_length (by omega),List.take_left' (by simp)]
 rw[e1]
 unfold dD
 have e2:List.drop (i+1+(X.drop i).length) (X++[u])=[]:=List.drop_eq_nil_of_le (by simp only[List.length_append,List.length_drop,List.length_cons,List.length_nil];omega)
 rw[e2,List.take_append_of_le_length (by omega),List.append_nil]
theorem Hm(X:List DV)(x:DV)(i:Nat)(hi:i<X.length):dD (X.take (i+1)++X.drop i) [x] i=X.take i++x::X.drop i:=by
 unfold dD
 have h1:(X.take (i+1)).length=i+1:=by simp;omega
 rw[List.take_append_of_le_length (by omega),List.take_take,Nat.min_eq_left (by omega)]
 have:List.drop (i+[x].length) (X.take (i+1)++X.drop i)=X.drop i:=by
  rw[List.drop_left' (by simpa using h1)]
 rw[this];simp
theorem Cp(X:List DV)(z x:DV)(i:Nat)(hi:i<X.length):dD (X.take i++List.replicate (X.length+1-i) z) [x] i=X.take i++x::List.replicate (X.length-i) z:=by
 unfold dD
 have h1:(X.take i).length=i:=by simp;omega
 rw[List.take_left' h1]
 have h2:List.replicate (X.length+1-i) z=z::List.replicate (X.length-i) z:=by
  rw[show X.length+1-i=(X.length-i)+1 by omega,List.replicate_succ]
 rw[h2]
 have:List.drop (i+[x].length) (X.take i++z::List.replicate (X.length-i) z)=List.replicate (X.length-i) z:=by
  rw[List.drop_append,h1,List.drop_eq_nil_of_le (by simp;omega)]
  simp
 rw[this];simp
theorem Co(X:List DV)(z x:DV)(i:Nat)(hi:i<X.length):dD (X.take i++x::List.replicate (X.length-i) z) (X.drop i) (i+1)=X.take i++x::X.drop i:=by
 unfold dD
 have h1:(X.take i).length=i:=by simp;omega
 have h2:List.take (i+1) (X.take i++x::List.replicate (X.length-i) z)=X.take i++[x]:=by
  rw[List.take_append,h1,List.take_of_length_le (by omega)]
  simp
 have h3:List.drop (i+1+(X.drop i).length) (X.take i++x::List.replicate (X.length-i) z)=[]:=by
  apply List.drop_eq_nil_of_le
  simp;omega
 rw[h2,h3];simp
theorem OwnR.start(lo:Nat)(h:aA)(ety sz:Nat):OwnR lo h .nsl ety sz []:=.nil rfl rfl
theorem OwnR.fresh{lo:Nat}{h:aA}{ety sz:Nat}{xs:List DV}{cap:Option Nat}(aL:h.lim≤h.n)(dS:lo≤h.n):OwnR lo (h.push (.arr ety sz xs cap)) (.sl h.n sz 0 xs.length) ety sz xs:=.arr h.n [] cap rfl (by simp[cM]) aL dS
theorem OwnR.append{lo:Nat}{h:aA}{v:DV}{ety sz bytes:Nat}{xs ys:List DV}{A:Option (DV×aA)}(w:OwnR lo h v ety sz xs)(wf:WF h)(dS:lo≤h.n)(aL:h.lim≤h.n)(hA:aY h ety sz bytes v ys=A)
  (hb:(xs.length+ys.length)*bytes≤140737488355328) (Bt:1≤bytes):∃ v' h',A=some (v',h')∧OwnR lo h' v' ety sz (xs++ys)∧Ext lo h h'∧iF ety h h':=by
 have hm:xs.length+ys.length≤140737488355328:=Nat.le_trans (Nat.le_mul_of_pos_right _ Bt) hb
 by_cases hy:ys=[]
 ·subst hy
  refine⟨v,h,?_,by simpa using w,.refl dS wf,.refl _ _⟩
  rw[←hA]
  cases w with
  | nil hv hx=>subst hv;rfl
  | arr id sp cap hv hg _ _=>subst hv;rfl
 ·have So:ys.isEmpty=false:=by cases ys<;>simp_all
  have ZJ:0<ys.length:=List.length_pos_iff.2 hy
  cases w with
  | nil hv hx =>
   subst hv;subst hx
   simp only[List.length_nil,Nat.zero_add]at hb hm
   refine⟨.sl h.n sz 0 ys.length,h.push (.arr ety sz ys none),?_,.arr h.n [] none rfl (by simp[cM]) (by exact aL) dS,(Ext.refl dS wf).push,(iF.refl _ _).push⟩
   rw[←hA]
   simp only[aY,So]
   rw[if_neg (by simp),if_pos ⟨hb,by omega⟩]
  | arr id sp cap hv hg hl hi =>
   subst hv
   have bC:=bB hg
   by_cases rX:xs.length+ys.length≤(xs++sp).length
   ·refine⟨.sl id sz 0 (xs.length+ys.length),h.set id (.arr ety sz (dD (xs++sp) ys xs.length) cap),?_,.arr id (sp.drop ys.length) cap (by simp) ?_ (by exact hl) hi,(Ext.refl dS wf).set hi bC,(iF.refl _ _).set wf hg bC⟩
    ·rw[←hA];exact kO hg rX hl hb Bt hy
    ·rw[bY wf bC,if_pos rfl]
     simp only[dD,List.take_left',List.append_assoc]
     congr 3
     rw[List.drop_append]
     simp
   ·cases cap with
    | none =>
     refine⟨.sl h.n sz 0 (xs.length+ys.length),(h.set id .dead).push (.arr ety sz (xs++ys) none),?_,.arr h.n [] none (by simp) ?_ (by exact aL) dS,((Ext.refl dS wf).set hi bC).push,((iF.refl _ _).set wf hg bC).push⟩
     ·rw[←hA]
      simp only[aY,So,hg]
      simp only[Bool.false_eq_true,if_false,true_and,Nat.zero_add,List.drop_zero]
      rw[if_pos ⟨by simp,hb,by omega⟩,if_neg rX,if_pos hl]
      simp
     ·simp
    | some c =>
     refine⟨.sl h.n sz 0 (xs.length+ys.length),h.push (.arr ety sz (xs++ys) none),?_,.arr h.n [] none (by simp) ?_ (by exact aL) dS,(Ext.refl dS wf).push,(iF.refl _ _).push⟩
     ·rw[←hA]
      rw[gZ hg (by simp) (by omega) hb Bt hy]
      simp
     ·simp
structure fO(lo:Nat)(h:aA)(id ety sz:Nat)(xs:List DV):Prop where
 get:∃ sp cap,h.get id=some (.arr ety sz (xs++sp) cap)
 lim:h.lim≤id
 lo:lo≤id
theorem fO.toR{lo:Nat}{h:aA}{id ety sz:Nat}{xs:List DV}(w:fO lo h id ety sz xs):OwnR lo h (.sl id sz 0 xs.length) ety sz xs:=by
 obtain⟨⟨sp,cap,hg⟩,hl,hi⟩:=w
 exact .arr id sp cap rfl hg hl hi
theorem fO.lt{lo:Nat}{h:aA}{id ety sz:Nat}{xs:List DV}(w:fO lo h id ety sz xs):id<h.n:=by
 obtain⟨⟨sp,cap,hg⟩,_,_⟩:=w
 exact bB hg
theorem fO.fresh{lo:Nat}{h:aA}{ety sz:Nat}{xs:List DV}{cap:Option Nat}(aL:h.lim≤h.n)(dS:lo≤h.n):fO lo (h.push (.arr ety sz xs cap)) h.n ety sz xs:=⟨⟨[],cap,by simp[cM]⟩,aL,dS⟩
theorem fO.push{lo:Nat}{h:aA}{id ety sz:Nat}{xs:List DV}{o:DO}(w:fO lo h id ety sz xs):fO lo (h.push o) id ety sz xs:=by
 obtain⟨⟨sp,cap,hg⟩,hl,hi⟩:=w
 exact⟨⟨sp,cap,by rw[cM,if_neg (by have:=bB hg;omega)];exact hg⟩,hl,hi⟩
theorem fO.keep{lo:Nat}{h h':aA}{id ety e2 sz:Nat}{xs:List DV}(w:fO lo h id e2 sz xs)(x:iF ety h h')(hl:h'.lim=h.lim)(eG:e2≠ety):fO lo h' id e2 sz xs:=by
 obtain⟨⟨sp,cap,hg⟩,aL,hi⟩:=w
 exact⟨⟨sp,cap,x _ _ hg (fun s ys c e=>by injection e with e1;exact eG e1)⟩,by rw[hl];exact aL,hi⟩
theorem fO.aU{lo:Nat}{h:aA}{id ety sz:Nat}{xs:List DV}(w:fO lo h id ety sz xs)(wf:WF h){k:Nat}{o:DO}(fI:k<lo)(hn:k<h.n):fO lo (h.set k o) id ety sz xs:=by
 obtain⟨⟨sp,cap,hg⟩,hl,hi⟩:=w
 exact⟨⟨sp,cap,by rw[bY wf hn,if_neg (by omega)];exact hg⟩,hl,hi⟩
theorem fO.wl{lo:Nat}{h:aA}{id ety sz:Nat}{xs:List DV}(w:fO lo h id ety sz xs){m:Nat}(hm:m≤lo):fO lo (Dm.wl h m) id ety sz xs:=by
 obtain⟨⟨sp,cap,hg⟩,hl,hi⟩:=w
 exact⟨⟨sp,cap,hg⟩,Nat.le_trans hm hi,hi⟩
theorem fO.ext{lo:Nat}{h h':aA}{id ety sz:Nat}{xs:List DV}(w:fO lo h id ety sz xs)(x:Ext h.n h h'):fO lo h' id ety sz xs:=by
 have:=w.lt
 obtain⟨⟨sp,cap,hg⟩,hl,hi⟩:=w
 exact⟨⟨sp,cap,(x.get id this).trans hg⟩,by rw[x.lim];exact hl,hi⟩
theorem fO.append{lo:Nat}{h:aA}{id ety sz bytes:Nat}{xs ys:List DV}{A:Option (DV×aA)}{n:Nat}(w:fO lo h id ety sz xs)(hn:n=xs.length)(wf:WF h)(dS:lo≤h.n)(aL:h.lim≤h.n)(hA:aY h ety sz bytes (.sl id sz 0 n) ys=A)
  (hb:(xs.length+ys.length)*bytes≤140737488355328) (Bt:1≤bytes):∃ id' h',A=some (.sl id' sz 0 (xs.length+ys.length),h')∧fO lo h' id' ety sz (xs++ys)∧Ext lo h h'∧iF ety h h'∧(id'=id∨h.n≤id'):=by
 subst hn
 have hm:xs.length+ys.length≤140737488355328:=Nat.le_trans (Nat.le_mul_of_pos_right _ Bt) hb
 by_cases hy:ys=[]
 ·subst hy
  refine⟨id,h,?_,by simpa using w,.refl dS wf,.refl _ _,.inl rfl⟩
  rw[←hA];rfl
 ·have So:ys.isEmpty=false:=by cases ys<;>simp_all
  obtain⟨⟨sp,cap,hg⟩,hl,hi⟩:=w
  have bC:=bB hg
  by_cases rX:xs.length+ys.length≤(xs++sp).length
  ·refine⟨id,h.set id (.arr ety sz (dD (xs++sp) ys xs.length) cap),?_,⟨⟨sp.drop ys.length,cap,?_⟩,hl,hi⟩,(Ext.refl dS wf).set hi bC,(iF.refl _ _).set wf hg bC,.inl rfl⟩
   ·rw[←hA];exact kO hg rX hl hb Bt hy
   ·rw[bY wf bC,if_pos rfl]
    simp only[dD,List.take_left',List.append_assoc]
    congr 3
    rw[List.drop_append]
    simp
  ·cases cap with
   | none =>
    refine⟨h.n,(h.set id .dead).push (.arr ety sz (xs++ys) none),?_,⟨⟨[],none,?_⟩,aL,dS⟩,((Ext.refl dS wf).set hi bC).push,((iF.refl _ _).set wf hg bC).push,.inr (Nat.le_refl _)⟩
    ·rw[←hA]
     simp only[aY,So,hg]
     simp only[Bool.false_eq_true,if_false,true_and,Nat.zero_add,List.drop_zero]
     rw[if_pos ⟨by simp,hb,by omega⟩,if_neg rX,if_pos hl]
     simp
    ·simp
   | some c =>
    refine⟨h.n,h.push (.arr ety sz (xs++ys) none),?_,⟨⟨[],none,?_⟩,aL,dS⟩,(Ext.refl dS wf).push,(iF.refl _ _).push,.inr (Nat.le_refl _)⟩
    ·rw[←hA]
     rw[gZ hg (by simp) (by omega) hb Bt hy]
     simp
    ·simp
theorem FZ(h:aA)(t:Bool)(sz:Nat)(xs:List DV):elems h sz (.isl t sz xs)=some xs:=by simp[elems]
theorem KG(t:Bool)(sz:Nat)(xs:List DV):Je (.isl t sz xs)=none:=_root_.id rfl
theorem EY(t:Bool)(sz:Nat)(xs:List DV):mapId (.isl t sz xs)=none:=_root_.id rfl
theorem Vs{α:Type}(h:aA)(t:Bool)(sz:Nat)(e:α→DV)(xs:List α)(k:IntKind)(i:Nat)(hi:i≤xs.length):iH h sz (eL t sz e xs) none (some (.int k (i:Int)))=some (.isl (t && !xs.isEmpty) sz ((xs.take i).map e)):=by
 cases xs with
 | nil =>
  have h0:i=0:=by simpa using hi
  subst h0
  simp[iD,iH,dP,asI]
 | cons x xs =>
  have h2:(i:Int)≤((xs.length+1:Nat):Int):=by simp at hi;omega
  rw[vV]
  simp only[iH,List.length_cons,List.length_map,dP,asI]
  simp only[List.isEmpty_cons,Bool.not_false,Bool.and_true,true_or,if_true,Int.natCast_nonneg,h2,and_self,Int.toNat_natCast,List.drop_zero,Nat.sub_zero]
  rw[←List.map_cons,←List.map_take]
theorem Cc{α:Type}(h:aA)(t:Bool)(sz:Nat)(e:α→DV)(xs:List α)(k:IntKind)(i:Nat)(hi:i≤xs.length):iH h sz (eL t sz e xs) (some (.int k (i:Int))) none=some (.isl (t && !xs.isEmpty) sz ((xs.drop i).map e)):=by
 cases xs with
 | nil =>
  have h0:i=0:=by simpa using hi
  subst h0
  simp[iD,iH,dP,asI]
 | cons x xs =>
  have h2:(i:Int)≤((xs.length+1:Nat):Int):=by simp at hi;omega
  rw[vV]
  simp only[iH,List.length_cons,List.length_map,dP,asI]
  simp only[List.isEmpty_cons,Bool.not_false,Bool.and_true,true_or,if_true,Int.natCast_nonneg,h2,and_self,Int.toNat_natCast]
  rw[←List.map_cons,←List.map_drop,List.take_of_length_le (by simp)]
theorem Rf{α:Type}(h:aA)(t:Bool)(sz:Nat)(e:α→DV)(xs:List α)(k:IntKind)(i:Nat)(hi:i+1≤xs.length):iH h sz (eL t sz e xs) (some (.int k ((i:Int)+1))) none=some (.isl (t && !xs.isEmpty) sz ((xs.drop (i+1)).map e)):=by
 have:=Cc h t sz e xs k (i+1) hi
 rwa[Int.natCast_add]at this
attribute [simp] FZ KG EY Vs Cc Rf
theorem lZ{α:Type}{f:α×α→Bool}:∀{l:List α},(∀x∈l,f (x,x)=true)→(l.zip l).all f=true:=by
 intro l
 induction l with
 | nil=>intro _;rfl
 | cons x r ih =>
  intro h
  rw[List.zip_cons_cons,List.all_cons,h x (List.mem_cons_self ..),ih fun y hy=>h y (List.mem_cons_of_mem _ hy)];rfl
theorem lX(n:Nat):Nat.beq n n=true:=by simp[Nat.beq_eq]
inductive Dep:Nat→DV→Prop where
 | int (k:IntKind) (n:Int) {d:Nat}:Dep (d+1) (.int k n)
 | bool (b:Bool) {d:Nat}:Dep (d+1) (.bool b)
 | str (s:List UInt8) {d:Nat}:Dep (d+1) (.str s)
 | isl (t:Bool) (sz:Nat) (xs:List DV) {d:Nat} (h:∀x∈xs,Dep d x):Dep (d+1) (.isl t sz xs)
 | agg (xs:List DV) {d:Nat} (h:∀x∈xs,Dep d x):Dep (d+1) (.agg xs)
theorem Dep.same{d:Nat}{v:DV}(h:Dep d v):∀{n:Nat},d≤n→same n v v=true:=by
 induction h with
 | int k n=>intro m hm;obtain⟨q,rfl,_⟩:=cL hm;simp[Dm.same]
 | bool b=>intro m hm;obtain⟨q,rfl,_⟩:=cL hm;simp[Dm.same]
 | str s=>intro m hm;obtain⟨q,rfl,_⟩:=cL hm;simp[Dm.same]
 | isl t sz xs h ih =>
  intro m hm;obtain⟨q,rfl,hq⟩:=cL hm
  simp only[Dm.same,lX,beq_self_eq_true,Bool.true_and]
  exact lZ fun x hx=>ih x hx hq
 | agg xs h ih =>
  intro m hm;obtain⟨q,rfl,hq⟩:=cL hm
  simp only[Dm.same,lX,Bool.true_and]
  exact lZ fun x hx=>ih x hx hq
theorem Dep.belowN{d:Nat}{v:DV}(h:Dep d v):∀{n N:Nat},d≤n→Dm.fX n N v=true:=by
 induction h with
 | int k n=>intro m N hm;obtain⟨q,rfl,_⟩:=cL hm;rfl
 | bool b=>intro m N hm;obtain⟨q,rfl,_⟩:=cL hm;rfl
 | str s=>intro m N hm;obtain⟨q,rfl,_⟩:=cL hm;rfl
 | isl t sz xs h ih=>intro m N hm;obtain⟨q,rfl,hq⟩:=cL hm;rfl
 | agg xs h ih =>
  intro m N hm;obtain⟨q,rfl,hq⟩:=cL hm
  simp only[Dm.fX,List.all_eq_true]
  exact fun x hx=>ih x hx hq
theorem Dep.eL{α:Type}{d:Nat}(t:Bool)(sz:Nat){e:α→DV}{xs:List α}(h:∀x∈xs,Dep d (e x)):Dep (d+1) (eL t sz e xs):=by
 cases xs with
 | nil=>exact .isl _ _ _ (fun x hx=>by cases hx)
 | cons x r =>
  rw[vV,←List.map_cons]
  refine .isl _ _ _ fun y hy=>?_
  obtain⟨z,hz,rfl⟩:=List.mem_map.1 hy
  exact h z hz
theorem Lq(c:eQ):Dep 2 (aO c):=.agg _ (by
 intro x hx;simp only[List.mem_cons,List.not_mem_nil,or_false]at hx
 rcases hx with rfl|rfl|rfl|rfl|rfl<;>first|exact .int _ _|exact .str _)
theorem Lp(p:bJ):Dep 3 (bE p):=.eL _ _ fun c _=>Lq c
theorem Dep.mono{d:Nat}{v:DV}(h:Dep d v):∀{e:Nat},d≤e→Dep e v:=by
 induction h with
 | int k n=>intro e he;obtain⟨q,rfl,_⟩:=cL he;exact .int _ _
 | bool b=>intro e he;obtain⟨q,rfl,_⟩:=cL he;exact .bool _
 | str s=>intro e he;obtain⟨q,rfl,_⟩:=cL he;exact .str _
 | isl t sz xs h ih=>intro e he;obtain⟨q,rfl,hq⟩:=cL he;exact .isl _ _ _ fun x hx=>ih x hx hq
 | agg xs h ih=>intro e he;obtain⟨q,rfl,hq⟩:=cL he;exact .agg _ fun x hx=>ih x hx hq
theorem OD(x:ID):Dep 4 (eID x):=.agg _ (by
 intro x hx;simp only[List.mem_cons,List.not_mem_nil,or_false]at hx
 rcases hx with rfl|rfl<;>exact .int _ _)
theorem Lr(a:bG):Dep 4 (aG a):=.agg _ (by
 intro x hx;simp only[List.mem_cons,List.not_mem_nil,or_false]at hx
 rcases hx with rfl|rfl|rfl|rfl<;>first|exact .int _ _|exact Lp _)
theorem Ou(a:aX):Dep 4 (aD a):=.agg _ (by
 intro x hx;simp only[List.mem_cons,List.not_mem_nil,or_false]at hx
 rcases hx with rfl|rfl|rfl|rfl|rfl|rfl|rfl<;>first|exact .int _ _|exact Lp _|exact .bool _)
theorem TY(a:fT):Dep 4 (cP a):=.agg _ (by
 intro x hx;simp only[List.mem_cons,List.not_mem_nil,or_false]at hx
 rcases hx with rfl|rfl|rfl<;>first|exact .int _ _|exact Lp _)
theorem jJ{cs:List DV}(h:∀x∈cs,jP 1 x):jP 20 (.agg cs):=(Dd h).mono (by decide)
theorem kX{cs:List DV}(h:∀x∈cs,Unl 21 x):Unl 22 (.agg cs):=Oy h
theorem qB(x:ID):jP 20 (eID x)∧Unl 22 (eID x):=⟨jJ (by
 intro x hx;simp only[List.mem_cons,List.not_mem_nil,or_false]at hx
 rcases hx with rfl|rfl<;>exact fL _ _),kX (by
 intro x hx;simp only[List.mem_cons,List.not_mem_nil,or_false]at hx
 rcases hx with rfl|rfl<;>exact(lC _ _).mono (by decide))⟩
theorem iI(a:bG):jP 20 (aG a)∧Unl 22 (aG a):=⟨jJ (by
 intro x hx;simp only[List.mem_cons,List.not_mem_nil,or_false]at hx
 rcases hx with rfl|rfl|rfl|rfl<;>first|exact fL _ _|exact Fa _),kX (by
 intro x hx;simp only[List.mem_cons,List.not_mem_nil,or_false]at hx
 rcases hx with rfl|rfl|rfl|rfl<;>first|exact(lC _ _).mono (by decide)|exact tT _)⟩
theorem cA(a:aX):jP 20 (aD a)∧Unl 22 (aD a):=⟨jJ (by
 intro x hx;simp only[List.mem_cons,List.not_mem_nil,or_false]at hx
 rcases hx with rfl|rfl|rfl|rfl|rfl|rfl|rfl<;>first|exact fL _ _|exact Fa _|exact rG _),kX (by
 intro x hx;simp only[List.mem_cons,List.not_mem_nil,or_false]at hx
 rcases hx with rfl|rfl|rfl|rfl|rfl|rfl|rfl<;>first|exact(lC _ _).mono (by decide)|exact tT _|exact(wP _).mono (by decide))⟩
theorem lV(a:fT):jP 20 (cP a)∧Unl 22 (cP a):=⟨jJ (by
 intro x hx;simp only[List.mem_cons,List.not_mem_nil,or_false]at hx
 rcases hx with rfl|rfl|rfl<;>first|exact fL _ _|exact Fa _),kX (by
 intro x hx;simp only[List.mem_cons,List.not_mem_nil,or_false]at hx
 rcases hx with rfl|rfl|rfl<;>first|exact(lC _ _).mono (by decide)|exact tT _)⟩
theorem kI(n:Int):jP 20 (bO n)∧Unl 22 (bO n):=⟨(fL _ _).mono (by decide),(lC _ _).mono (by decide)⟩
theorem lW(c:eQ):jP 20 (aO c)∧Unl 22 (aO c):=⟨Ai.flat c,(Ai.unl c).mono (by decide)⟩
theorem QA(n:Nat)(xs:List Int):bI (n+23) (eL false 1 bO xs)=true:=eS (fun x _=>(kI x).2) _ (by omega)
theorem VV(n:Nat)(xs:List ID):bI (n+23) (eL false 2 eID xs)=true:=eS (fun x _=>(qB x).2) _ (by omega)
theorem C0(n:Nat)(xs:List bG):bI (n+23) (eL false 4 aG xs)=true:=eS (fun x _=>(iI x).2) _ (by omega)
theorem B9(n:Nat)(xs:List aX):bI (n+23) (eL false 7 aD xs)=true:=eS (fun x _=>(cA x).2) _ (by omega)
theorem T9(n:Nat)(xs:List fT):bI (n+23) (eL false 3 cP xs)=true:=eS (fun x _=>(lV x).2) _ (by omega)
attribute [simp] QA VV C0 B9 T9
end Go.Dm
/-
Arguments of a call from outside: what the frame tells of them,in the machine's form;a function with arguments that answers true.
-/
namespace Go.Dm
open Go.RowKit
theorem HB {P : Program} {D : cX} (G : T7 P D) {f : Nat} {fn : Func} {body : Code} (hf : P.funcs[f]? = some fn) (hb : fn.body = some body) (hn : fn.name ≠ "runtime.NumGoroutine") {ds : List DV} {vs : List Value} {h' : aA} (hr : fc D f ds sC = some (.bool true, h')) (w : World) (hg : T6 w) (hv : VRs (GG w) ds vs) :
  Calls P f vs.toArray w fun e w'=>e=.returned (.bool true)∧Grown w w'∧∀b,b<w.heap.size→w'.heap[b]?=w.heap[b]?:=by
 obtain⟨n,he⟩:=Tf.1 hr
 have hc:=S3 G n f ds sC _ h' (GG w) vs he (rel0 w hg) hv
 have hen:=oO hf hb hn vs.toArray w
 rcases hc with⟨v,w',nI,_⟩|⟨f',vals',nI,hcalls⟩
 ·have:(callFunc f vs.toArray).run P w=.ok (.value v) w':=nI
  rw[hen]at this
  cases this
 ·have h2:(callFunc f vs.toArray).run P w=.ok (.enter f' vals') w:=nI
  rw[hen]at h2
  cases h2
  refine hcalls.mono fun e w' hp=>?_
  obtain⟨v,e1,ρ',k1,k2,k3⟩:=hp
  exact⟨by rw[e1,k3.bool_inv],Ye k2,fun b hb=>k2.frame b hb fun h=>h⟩
structure Br(c:Ctx)(w:World):Prop where
 w:c.w=w
 O:∀b,¬c.O b
 X:∀b,¬c.X b
theorem Br.zero(w:World):Br (GG w) w:=⟨rfl,fun _ h=>h,fun _ h=>h⟩
theorem Br.still{c:Ctx}{w:World}(h:Br c w):Br c.still w:=⟨h.w,h.O,h.X⟩
theorem Z2{α:Type}{p:Nat→α→Prop}:∀n,(∀i,i<n→∃ a,p i a)→∃ l:List α,l.length=n∧∀i (hi:i<l.length),p i l[i]
 | 0,_=>⟨[],rfl,fun i hi=>absurd hi (Nat.not_lt_zero _)⟩
 | n+1,h=>by
  obtain⟨l,hl,hp⟩:=Z2 n fun i hi=>h i (Nat.lt_succ_of_lt hi)
  obtain⟨a,ha⟩:=h n (Nat.lt_succ_self n)
  refine⟨l++[a],by simp[hl],fun i hi=>?_⟩
  by_cases bC:i<l.length
  ·rw[List.getElem_append_left bC];exact hp i bC
  ·have:i=n:=by simp at hi;omega
   subst this
   rw[List.getElem_append_right (by omega)]
   simpa[hl]using ha
theorem A4(b o n:Nat):(⟨b,o,none⟩:Addr).add n=⟨b,o+n,none⟩:=by
 unfold Addr.add
 split
 ·rename_i h;subst h;rfl
 ·rfl
theorem QN{w:World}{a:Addr}{v:Value}(h:w.cell? a=some v):a.spot=none∧a.block<w.heap.size:=by
 unfold World.cell? at h
 split at h
 ·rename_i hb
  refine⟨?_,?_⟩
  ·split at h
   ·cases h
   ·rename_i hs;cases hs2:a.spot with|none=>rfl|some x=>simp[hs2]at hs
  ·by_cases bC:a.block<w.heap.size
   ·exact bC
   ·rw[Array.getElem?_eq_none (by omega)]at hb;cases hb
 ·cases h
def jY(c:Ctx)(ds:List DV)(cs:List Value):Prop:=ds.length=cs.length∧∀i (h1:i<ds.length) (h2:i<cs.length),VR c ds[i] cs[i]∧(cs[i]).oneCell'=true
theorem jY.append{c:Ctx}{ds ds':List DV}{cs cs':List Value}(h:jY c ds cs)(h':jY c ds' cs'):jY c (ds++ds') (cs++cs'):=by
 refine⟨by rw[List.length_append,List.length_append,h.1,h'.1],fun i h1 h2=>?_⟩
 by_cases bC:i<ds.length
 ·rw[List.getElem_append_left bC,List.getElem_append_left (by rw[←h.1];exact bC)]
  exact h.2 i bC _
 ·rw[List.getElem_append_right (by omega),List.getElem_append_right (by rw[←h.1];omega)]
  have:i-cs.length=i-ds.length:=by rw[h.1]
  simp only[this]
  exact h'.2 (i-ds.length) (by rw[List.length_append]at h1;omega) _
theorem jY.one{c:Ctx}{d:DV}{v:Value}(h:VR c d v)(h1:v.oneCell'=true):jY c [d] [v]:=by
 refine⟨rfl,fun i h2 h3=>?_⟩
 have:i=0:=by simp at h2;omega
 subst this
 exact⟨h,h1⟩
theorem jY.nil{c:Ctx}:jY c [] []:=⟨rfl,fun i h=>absurd h (Nat.not_lt_zero _)⟩
section
variable {H:Type} {enc:TypeId×Value→H} {P:Program} {w:World} {sp:Nat→Bool} {lF:Bool}
theorem jT{t:TypeId}{cs:List Value}{fuel:Nat}{x:DataW H×List MemPlace}(ht:P.underlying t=some (.int .i64))(h:DataW.trod enc P w 0 sp lF fuel t cs=some x)(c:Ctx):∃ n:Int,jY c [.int .i64 n] cs:=by
 obtain⟨n,rfl,_,_⟩:=DataW.trod_int ht h
 exact⟨n,.one (.int _ _) rfl⟩
theorem Jp{α:Type}{t e:TypeId}{cs:List Value}{fuel sz:Nat}{x:DataW H×List MemPlace}(ht:P.underlying t=some (.slice e))(hz:P.cellsOf e=sz)(hz0:0<sz)(h:DataW.trod enc P w 0 sp lF fuel t cs=some x){c:Ctx}(hc:Br c w)
  (en:α→DV) (NP:α→Prop) (kZ:∀ecs y n,DataW.trod enc P w 0 sp lF n e ecs=some y→∃ a,NP a∧jY c.still (aP sz (en a)) ecs) :
  ∃ l:List α,(∀a∈l,NP a)∧l.length≤maxLen∧jY c [eL false sz en l] cs:=by
 rcases DataW.trod_slice ht h with⟨rfl,_⟩|⟨a,len,cap,elems,rest,n,_,rfl,_,hb,hl,kM,hel1,hel2,_⟩
 ·exact⟨[],fun a h=>(by cases h),Nat.zero_le _,.one (.isl0 _ _) rfl⟩
 ·rw[hz]at hel2
  have VC:∀i,i<len→∃ p:α×List Value,NP p.1∧w.cells? 0 (a.add (i*sz)) sz=some p.2∧jY c.still (aP sz (en p.1)) p.2:=fun i hi=>by
   have h1:=hel2 i hi
   rw[List.getElem?_eq_getElem (by omega)]at h1
   simp only[Option.bind_eq_some_iff]at h1
   obtain⟨ecs,h2,h3⟩:=h1
   obtain⟨b,h4,h5⟩:=kZ _ _ _ h3
   exact⟨(b,ecs),h4,h2,h5⟩
  obtain⟨l,Dv,hlp⟩:=Z2 len VC
  refine⟨l.map (·.1),?_,by rw[List.length_map,Dv];omega,.one ?_ rfl⟩
  ·intro b hb
   obtain⟨p,hp,rfl⟩:=List.mem_map.1 hb
   obtain⟨i,hi,rfl⟩:=List.mem_iff_getElem.1 hp
   exact(hlp i hi).1
  ·by_cases h0:len=0
   ·have:l=[]:=List.eq_nil_of_length_eq_zero (by omega)
    subst this
    subst h0
    exact .isl0 _ _
   ·have eG:l≠[]:=fun e=>h0 (by rw[←Dv,e];rfl)
    have Kl:l.map (·.1)≠[]:=by simpa using eG
    have zN:∀i (hi:i<l.length) j,j<sz→w.cell? ((a.add (i*sz)).add j)=(l[i]).2[j]?∧(l[i]).2.length=sz:=fun i hi j hj=>by
     obtain⟨_,k2,k3⟩:=World.cells?_some (hlp i hi).2.1
     exact⟨k3 j hj,k2⟩
    have yZ:0<l.length:=by omega
    have h00:=zN 0 yZ 0 hz0
    have ha0:(a.add (0*sz)).add 0=a:=by simp[Addr.add]
    rw[ha0,List.getElem?_eq_getElem (by rw[h00.2];exact hz0)]at h00
    obtain⟨hs,hbk⟩:=QN h00.1
    obtain⟨b,o,s⟩:=a
    simp only at hs hbk
    subst hs
    rw[VH false sz en Kl]
    have P7:∀i (hi:i<l.length) j (hj:j<sz),w.cell? ⟨b,o+i*sz+j,none⟩=some ((l[i]).2[j]'(by rw[(zN i hi j hj).2];exact hj)):=fun i hi j hj=>by
     have k1:=(zN i hi j hj).1
     rw[A4,A4]at k1
     exact k1.trans (List.getElem?_eq_getElem _)
    refine .isl (fun i j=>(w.cell? ⟨b,o+i*sz+j,none⟩).getD undef) (by simp[Dv]) hl (by rw[hc.w];exact hbk) (hc.O b) (fun _=>hc.X b) ?_ ?_ ?_
    ·intro i hi
     simp only[List.length_map]at hi
     simp only[List.getElem_map]
     have:=(hlp i hi).2.2.1
     rw[this]
     exact(zN i hi 0 hz0).2
    ·intro i j hi hj
     simp only[List.length_map]at hi
     rw[hc.w,P7 i hi j hj]
     have h5:=(hlp i hi).2.2
     have h6:=(zN i hi j hj).2
     exact⟨rfl,(h5.2 j (by rw[h5.1,h6];exact hj) (by rw[h6];exact hj)).2⟩
    ·intro i hi j hj
     simp only[List.length_map]at hi
     simp only[List.getElem_map]at hj ⊢
     have h5:=(hlp i hi).2.2
     have h6:=(zN i hi 0 hz0).2
     have wM:j<sz:=by rw[h5.1,h6]at hj;exact hj
     have h7:=(h5.2 j hj (by rw[h6];exact wM)).1
     have h8:(w.cell? ⟨b,o+i*sz+j,none⟩).getD undef=(l[i]).2[j]'(by rw[h6];exact wM):=by rw[P7 i hi j wM];rfl
     simp only[h8]
     exact h7
theorem QT{w':World}(hg:∀b,b<w.heap.size→w'.heap[b]?=w.heap[b]?){p:MemPlace}(hp:p.block<w.heap.size):w.sameAt w' p:=by
 cases p with
 | cell b off =>
  show w'.cell? ⟨b,off,none⟩=w.cell? ⟨b,off,none⟩
  unfold World.cell?
  rw[hg b hp]
 | map b=>exact hg b hp
theorem Bw{w':World}(hg:∀b,b<w.heap.size→w'.heap[b]?=w.heap[b]?)(sp':Nat→Bool):∀{ts:List TypeId} {vs:List Value} {ds:List (DataW H)} {ps:List MemPlace},DataW.TrodAll enc P w 0 sp' lF ts vs ds ps→(∀p∈ps,p.block<w.heap.size)→DataW.TrodAll enc P w' 0 sp' lF ts vs ds ps
 | [],[],[],_,h,_=>h
 | t::ts,v::vs,d::ds,ps,h,hl=>by
  obtain⟨p,q,⟨fuel,h1⟩,h2,rfl⟩:=h
  exact⟨p,q,⟨fuel,DataW.trod_carry _ _ _ _ h1 fun x hx=>QT hg (hl x (List.mem_append.2 (.inl hx)))⟩,Bw hg sp' h2 fun x hx=>hl x (List.mem_append.2 (.inr hx)),rfl⟩
end
end Go.Dm
