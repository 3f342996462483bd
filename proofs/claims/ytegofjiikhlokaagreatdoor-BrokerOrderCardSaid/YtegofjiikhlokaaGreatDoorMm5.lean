/- A part of the proof. -/
import Derived.Test.YtegofjiikhlokaaGreatDoorMm4
import Derived.Test.YtegofjiikhlokaaGreatDoorMm3
import Derived.ChangeArms
import Derived.ChangeSame
set_option linter.all false
namespace Go.Dm
theorem yY{lo:Nat}{h:aA}{v:DV}{ety sz bytes:Nat}{ys:List DV}{A:Option (DV×aA)}(he:elems h sz v=some ys)(wf:WF h)(dV:lo≤h.n)(aM:h.lim≤h.n)(hb:ys.length*bytes≤140737488355328)(Bx:1≤bytes)(hA:dN ety sz bytes h [v]=A) :
  ∃ v' h',A=some (v',h')∧Own lo h' v' ety sz ys∧Ext lo h h'∧Ext h.n h h':=by
 have hm:ys.length≤140737488355328:=Nat.le_trans (Nat.le_mul_of_pos_right _ Bx) hb
 subst hA
 by_cases hy:ys=[]
 ·subst hy
  refine⟨.nsl,h.push .dead,?_,.nil rfl rfl,(Ext.refl dV wf).push,(Ext.refl (Nat.le_refl _) wf).push⟩
  simp[dN,he]
 ·have Tq:ys.isEmpty=false:=by cases ys<;>simp_all
  refine⟨.sl (h.n+1) sz 0 ys.length,(h.push (.arr ety sz [] (some 0))).push (.arr ety sz ys none),?_,.arr (h.n+1) rfl ?_ ?_ (by omega),((Ext.refl dV wf).push).push,((Ext.refl (Nat.le_refl _) wf).push).push⟩
  ·simp only[dN,he,Tq]
   rw[if_neg (by simp),if_pos ⟨hb,by omega⟩]
  ·exact cR
  ·show h.lim≤h.n+1
   omega
inductive OwnR(lo:Nat)(h:aA)(v:DV)(ety sz:Nat)(xs:List DV):Prop where
 | nil (hv:v=.nsl) (hx:xs=[])
 | arr (id:Nat) (sp:List DV) (cap:Option Nat) (hv:v=.sl id sz 0 xs.length) (hg:h.get id=some (.arr ety sz (xs++sp) cap)) (aM:h.lim≤id) (dV:lo≤id)
theorem Own.toR{lo:Nat}{h:aA}{v:DV}{ety sz:Nat}{xs:List DV}(w:Own lo h v ety sz xs):OwnR lo h v ety sz xs:=by
 cases w with
 | nil hv hx=>exact .nil hv hx
 | arr id hv hg hl hi=>exact .arr id [] none hv (by simpa using hg) hl hi
section OwnR
variable {lo:Nat} {h:aA} {v:DV} {ety sz:Nat} {xs:List DV}
theorem OwnR.push{o:DO}(w:OwnR lo h v ety sz xs):OwnR lo (h.push o) v ety sz xs:=by
 cases w with
 | nil hv hx=>exact .nil hv hx
 | arr id sp cap hv hg aM dV =>
  refine .arr id sp cap hv ?_ aM dV
  rw[cN,if_neg (by have:=bB hg;omega)];exact hg
theorem OwnR.ext{h':aA}(w:OwnR lo h v ety sz xs)(x:Ext h.n h h'):OwnR lo h' v ety sz xs:=by
 cases w with
 | nil hv hx=>exact .nil hv hx
 | arr id sp cap hv hg hl hi=>exact .arr id sp cap hv ((x.get id (bB hg)).trans hg) (by rw[x.lim];exact hl) hi
theorem OwnR.lenV(w:OwnR lo h v ety sz xs):lenV h 1 v=some (.int .i64 xs.length):=by
 cases w with
 | nil hv hx=>subst hv;subst hx;rfl
 | arr id sp cap hv hg hl hi=>subst hv;rfl
theorem OwnR.elems(w:OwnR lo h v ety sz xs):elems h sz v=some xs:=by
 cases w with
 | nil hv hx=>subst hv;subst hx;rfl
 | arr id sp cap hv hg hl hi=>subst hv;simp[Dm.elems,hg]
theorem OwnR.resolve{α:Type}{e:α→DV}{ys:List α}{k n:Nat}(tag:Bool)(w:OwnR lo h v ety sz (ys.map e))(hf:∀y∈ys,jU k (e y))(hn:k+1≤n):resolve tag h n v=some (eL tag sz e ys):=by
 obtain⟨m,rfl,hm⟩:=cM hn
 cases w with
 | nil hv hx =>
  subst hv
  cases ys with
  | nil=>rfl
  | cons y r=>simp at hx
 | arr id sp cap hv hg hl hi =>
  subst hv
  have Eb:(ys.map e).mapM (Dm.resolve tag h m)=some (ys.map e):=pK fun x hx=>by
   obtain⟨y,hy,rfl⟩:=List.mem_map.1 hx
   exact hf y hy tag h m hm
  simp only[Dm.resolve,hg,true_and,Nat.zero_add,List.length_append,Nat.le_add_right,if_true,List.drop_zero,List.take_left,Eb]
  rfl
theorem OwnR.bE(w:OwnR lo h v ety sz xs):bE 1 v=true:=by
 cases w with
 | nil hv hx=>subst hv;rfl
 | arr id sp cap hv hg hl hi=>subst hv;rfl
theorem OwnR.aP(w:OwnR lo h v ety sz xs):aP 1 v=[v]:=by
 cases w with
 | nil hv hx=>subst hv;rfl
 | arr id sp cap hv hg hl hi=>subst hv;rfl
theorem OwnR.out{α:Type}{e:α→DV}{ys:List α}{k:Nat}(w:OwnR lo h v ety sz (ys.map e))(hf:∀y∈ys,jU k (e y))(hu:∀y∈ys,Unl k (e y))(hk:k≤198) :
  dC (some (v,h))=some (eL false sz e ys) :=
 Xx (k:=k+1) (w.resolve false hf (by show k+1≤200;omega)) (eV hu) (by omega)
theorem OwnR.index(w:OwnR lo h v ety sz xs){i:Nat}{x:DV}(hx:xs[i]?=some x)(k:IntKind) :
  ∃ id sp cap,v=.sl id sz 0 xs.length∧h.get id=some (.arr ety sz (xs++sp) cap)∧h.lim≤id∧lo≤id∧bS sz v (.int k (i:Int))=some (.ptr id sz i 0)∧(xs++sp)[i]?=some x:=by
 have hi:i<xs.length:=by
  by_cases bD:i<xs.length
  ·exact bD
  ·rw[List.getElem?_eq_none (by omega)]at hx;cases hx
 cases w with
 | nil hv uJ=>subst uJ;simp at hi
 | arr id sp cap hv hg hl dV =>
  refine⟨id,sp,cap,hv,hg,hl,dV,?_,by rw[List.getElem?_append_left hi];exact hx⟩
  subst hv
  simp[bS,asI,hi]
end OwnR
theorem Own.bE{lo:Nat}{h:aA}{v:DV}{ety sz:Nat}{xs:List DV}(w:Own lo h v ety sz xs):bE 1 v=true:=w.toR.bE
theorem Own.aP{lo:Nat}{h:aA}{v:DV}{ety sz:Nat}{xs:List DV}(w:Own lo h v ety sz xs):aP 1 v=[v]:=w.toR.aP
theorem Own.wl{lo:Nat}{h:aA}{v:DV}{ety sz:Nat}{xs:List DV}(w:Own lo h v ety sz xs){m:Nat}(hm:m≤lo):Own lo (Dm.wl h m) v ety sz xs:=by
 cases w with
 | nil hv hx=>exact .nil hv hx
 | arr id hv hg hl hi=>exact .arr id hv hg (Nat.le_trans hm hi) hi
theorem Own.aW{lo:Nat}{h:aA}{v:DV}{ety sz:Nat}{xs:List DV}(w:Own lo h v ety sz xs)(wf:WF h){id:Nat}{o:DO}(fS:id<lo)(hn:id<h.n):Own lo (h.set id o) v ety sz xs:=by
 cases w with
 | nil hv hx=>exact .nil hv hx
 | arr k hv hg hl hi=>exact .arr k hv (by rw[cA wf hn,if_neg (by omega)];exact hg) hl hi
theorem Own.lower{lo lo':Nat}{h:aA}{v:DV}{ety sz:Nat}{xs:List DV}(w:Own lo h v ety sz xs)(hl:lo'≤lo):Own lo' h v ety sz xs:=by
 cases w with
 | nil hv hx=>exact .nil hv hx
 | arr k hv hg aM hi=>exact .arr k hv hg aM (Nat.le_trans hl hi)
theorem Ext.wl{lo:Nat}{h h':aA}(x:Ext lo h h')(m:Nat)(hm:m=h.lim):Ext lo h (Dm.wl h' m):=⟨x.le,hm,x.get,x.wf⟩
theorem Ext.lower{lo lo':Nat}{h h':aA}(x:Ext lo h h')(hl:lo'≤lo):Ext lo' h h':=⟨Nat.le_trans hl x.le,x.lim,fun id fS=>x.get id (by omega),x.wf⟩
theorem Dw{lo m:Nat}{h:aA}{v:DV}{ety sz bytes:Nat}{ys:List DV}{A:Option (DV×aA)}(hA:dN ety sz bytes (Dm.wl h m) [v]=A)(he:elems h sz v=some ys)(wf:WF h)(dV:lo≤h.n)(hm:m≤h.n)(aM:h.lim≤h.n)(hb:ys.length*bytes≤140737488355328)(Bx:1≤bytes) :
  ∃ v' h',A=some (v',h')∧Own lo (Dm.wl h' h.lim) v' ety sz ys∧Ext lo h (Dm.wl h' h.lim)∧Ext h.n h (Dm.wl h' h.lim):=by
 have qQ:elems (Dm.wl h m) sz v=some ys:=he
 obtain⟨v',h',e,o,x,y⟩:=yY (lo:=h.n) (h:=Dm.wl h m) qQ (wf.wl m) (Nat.le_refl _) hm hb Bx hA
 exact⟨v',h',e,(o.wl aM).lower dV,⟨Nat.le_trans dV x.le,rfl,fun id fS=>x.get id (by omega),x.wf⟩,⟨x.le,rfl,x.get,x.wf⟩⟩
def iH(ety:Nat)(h h':aA):Prop:=∀k o,h.get k=some o→(∀s xs c,o≠.arr ety s xs c)→h'.get k=some o
theorem iH.refl(ety:Nat)(h:aA):iH ety h h:=fun _ _ h _=>h
theorem iH.push{ety:Nat}{h h':aA}{o:DO}(x:iH ety h h'):iH ety h (h'.push o):=fun k ob hg eG=>by
 have:=x k ob hg eG
 rw[cN,if_neg (by have:=bB this;omega)];exact this
theorem iH.set{ety:Nat}{h h':aA}{id s:Nat}{xs:List DV}{c:Option Nat}{o:DO}(x:iH ety h h')(w:WF h')(hg:h.get id=some (.arr ety s xs c))(fS:id<h'.n):iH ety h (h'.set id o):=fun k ob hk eG=>by
 have TX:k≠id:=by
  intro e
  subst e
  rw[hg]at hk
  injection hk with hk
  exact eG _ _ _ hk.symm
 rw[cA w fS,if_neg TX]
 exact x k ob hk eG
theorem Own.keep{lo:Nat}{h h':aA}{v:DV}{ety e2 sz:Nat}{xs:List DV}(w:Own lo h v e2 sz xs)(x:iH ety h h')(hl:h'.lim=h.lim)(eG:e2≠ety):Own lo h' v e2 sz xs:=by
 cases w with
 | nil hv hx=>exact .nil hv hx
 | arr id hv hg aM dV =>
  exact .arr id hv (x _ _ hg (fun s ys c e=>by injection e with e1;exact eG e1)) (by rw[hl];exact aM) dV
theorem OwnR.keep{lo:Nat}{h h':aA}{v:DV}{ety e2 sz:Nat}{xs:List DV}(w:OwnR lo h v e2 sz xs)(x:iH ety h h')(hl:h'.lim=h.lim)(eG:e2≠ety):OwnR lo h' v e2 sz xs:=by
 cases w with
 | nil hv hx=>exact .nil hv hx
 | arr id sp cap hv hg aM dV =>
  exact .arr id sp cap hv (x _ _ hg (fun s ys c e=>by injection e with e1;exact eG e1)) (by rw[hl];exact aM) dV
theorem OwnR.aW{lo:Nat}{h:aA}{v:DV}{ety sz:Nat}{xs:List DV}(w:OwnR lo h v ety sz xs)(wf:WF h){id:Nat}{o:DO}(fS:id<lo)(hn:id<h.n):OwnR lo (h.set id o) v ety sz xs:=by
 cases w with
 | nil hv hx=>exact .nil hv hx
 | arr k sp cap hv hg hl hi=>exact .arr k sp cap hv (by rw[cA wf hn,if_neg (by omega)];exact hg) hl hi
theorem OwnR.lower{lo lo':Nat}{h:aA}{v:DV}{ety sz:Nat}{xs:List DV}(w:OwnR lo h v ety sz xs)(hl:lo'≤lo):OwnR lo' h v ety sz xs:=by
 cases w with
 | nil hv hx=>exact .nil hv hx
 | arr k sp cap hv hg aM hi=>exact .arr k sp cap hv hg aM (Nat.le_trans hl hi)
theorem kS{h:aA}{id ety sz bytes len:Nat}{xs ys:List DV}{cap:Option Nat}(hg:h.get id=some (.arr ety sz xs cap))(cJ:len+ys.length≤xs.length)(aM:h.lim≤id)(hb:(len+ys.length)*bytes≤140737488355328)(Bx:1≤bytes)(hy:ys≠[]) :
  aY h ety sz bytes (.sl id sz 0 len) ys=some (.sl id sz 0 (len+ys.length),h.set id (.arr ety sz (dE xs ys len) cap)):=by
 have hm:len+ys.length≤140737488355328:=Nat.le_trans (Nat.le_mul_of_pos_right _ Bx) hb
 have Tq:ys.isEmpty=false:=by cases ys<;>simp_all
 simp only[aY,Tq,hg,Bool.false_eq_true,if_false,true_and,Nat.zero_add]
 rw[if_pos ⟨by omega,hb,by omega⟩,if_pos cJ,if_pos aM]
theorem hZ{h:aA}{id ety sz bytes len c:Nat}{xs ys:List DV}(hg:h.get id=some (.arr ety sz xs (some c)))(hl:len≤xs.length)(cJ:xs.length<len+ys.length)(hb:(len+ys.length)*bytes≤140737488355328)(Bx:1≤bytes)(hy:ys≠[]) :
  aY h ety sz bytes (.sl id sz 0 len) ys=some (.sl h.n sz 0 (len+ys.length),h.push (.arr ety sz (xs.take len++ys) none)):=by
 have hm:len+ys.length≤140737488355328:=Nat.le_trans (Nat.le_mul_of_pos_right _ Bx) hb
 have Tq:ys.isEmpty=false:=by cases ys<;>simp_all
 simp only[aY,Tq,hg,Bool.false_eq_true,if_false,true_and,Nat.zero_add,List.drop_zero]
 rw[if_pos ⟨hl,hb,by omega⟩,if_neg (by omega)]
theorem yT(X:List DV)(u:DV)(i:Nat)(hi:i<X.length):dE (X++[u]) (List.take (X.length-i) (List.take (X.length+1-i) (List.drop i (X++[u])))) (i+1)=X.take (i+1)++X.drop i:=by
 have e1:List.take (X.length-i) (List.take (X.length+1-i) (List.drop i (X++[u])))=X.drop i:=by
  rw[List.take_take,Nat.min_eq_left (by omega),List.drop_append_of_le_length (by omega),List.take_left' (by simp)]
 rw[e1]
 unfold dE
 have e2:List.drop (i+1+(X.drop i).length) (X++[u])=[]:=List.drop_eq_nil_of_le (by simp only[List.length_append,List.length_drop,List.length_cons,List.length_nil];omega)
 rw[e2,List.take_append_of_le_length (by omega),List.append_nil]
theorem Hr(X:List DV)(x:DV)(i:Nat)(hi:i<X.length):dE (X.take (i+1)++X.drop i) [x] i=X.take i++x::X.drop i:=by
 unfold dE
 have h1:(X.take (i+1)).length=i+1:=by simp;omega
 rw[List.take_append_of_le_length (by omega),List.take_take,Nat.min_eq_left (by omega)]
 have:List.drop (i+[x].length) (X.take (i+1)++X.drop i)=X.drop i:=by
  rw[List.drop_left' (by simpa using h1)]
 rw[this];simp
theorem Cv(X:List DV)(z x:DV)(i:Nat)(hi:i<X.length):dE (X.take i++List.replicate (X.length+1-i) z) [x] i=X.take i++x::List.replicate (X.length-i) z:=by
 unfold dE
 have h1:(X.take i).length=i:=by simp;omega
 rw[List.take_left' h1]
 have h2:List.replicate (X.length+1-i) z=z::List.replicate (X.length-i) z:=by
  rw[show X.length+1-i=(X.length-i)+1 by omega,List.replicate_succ]
 rw[h2]
 have:List.drop (i+[x].length) (X.take i++z::List.replicate (X.length-i) z)=List.replicate (X.length-i) z:=by
  rw[List.drop_append,h1,List.drop_eq_nil_of_le (by simp;omega)]
  simp
 rw[this];simp
theorem Cu(X:List DV)(z x:DV)(i:Nat)(hi:i<X.length):dE (X.take i++x::List.replicate (X.length-i) z) (X.drop i) (i+1)=X.take i++x::X.drop i:=by
 unfold dE
 have h1:(X.take i).length=i:=by simp;omega
 have h2:List.take (i+1) (X.take i++x::List.replicate (X.length-i) z)=X.take i++[x]:=by
  rw[List.take_append,h1,List.take_of_length_le (by omega)]
  simp
 have h3:List.drop (i+1+(X.drop i).length) (X.take i++x::List.replicate (X.length-i) z)=[]:=by
  apply List.drop_eq_nil_of_le
  simp;omega
 rw[h2,h3];simp
theorem OwnR.start(lo:Nat)(h:aA)(ety sz:Nat):OwnR lo h .nsl ety sz []:=.nil rfl rfl
theorem OwnR.fresh{lo:Nat}{h:aA}{ety sz:Nat}{xs:List DV}{cap:Option Nat}(aM:h.lim≤h.n)(dV:lo≤h.n):OwnR lo (h.push (.arr ety sz xs cap)) (.sl h.n sz 0 xs.length) ety sz xs:=.arr h.n [] cap rfl (by simp[cN]) aM dV
theorem OwnR.append{lo:Nat}{h:aA}{v:DV}{ety sz bytes:Nat}{xs ys:List DV}{A:Option (DV×aA)}(w:OwnR lo h v ety sz xs)(wf:WF h)(dV:lo≤h.n)(aM:h.lim≤h.n)(hA:aY h ety sz bytes v ys=A)
  (hb:(xs.length+ys.length)*bytes≤140737488355328) (Bx:1≤bytes):∃ v' h',A=some (v',h')∧OwnR lo h' v' ety sz (xs++ys)∧Ext lo h h'∧iH ety h h':=by
 have hm:xs.length+ys.length≤140737488355328:=Nat.le_trans (Nat.le_mul_of_pos_right _ Bx) hb
 by_cases hy:ys=[]
 ·subst hy
  refine⟨v,h,?_,by simpa using w,.refl dV wf,.refl _ _⟩
  rw[←hA]
  cases w with
  | nil hv hx=>subst hv;rfl
  | arr id sp cap hv hg _ _=>subst hv;rfl
 ·have Tq:ys.isEmpty=false:=by cases ys<;>simp_all
  have i9:0<ys.length:=List.length_pos_iff.2 hy
  cases w with
  | nil hv hx =>
   subst hv;subst hx
   simp only[List.length_nil,Nat.zero_add]at hb hm
   refine⟨.sl h.n sz 0 ys.length,h.push (.arr ety sz ys none),?_,.arr h.n [] none rfl (by simp[cN]) (by exact aM) dV,(Ext.refl dV wf).push,(iH.refl _ _).push⟩
   rw[←hA]
   simp only[aY,Tq]
   rw[if_neg (by simp),if_pos ⟨hb,by omega⟩]
  | arr id sp cap hv hg hl hi =>
   subst hv
   have bD:=bB hg
   by_cases rZ:xs.length+ys.length≤(xs++sp).length
   ·refine⟨.sl id sz 0 (xs.length+ys.length),h.set id (.arr ety sz (dE (xs++sp) ys xs.length) cap),?_,.arr id (sp.drop ys.length) cap (by simp) ?_ (by exact hl) hi,(Ext.refl dV wf).set hi bD,(iH.refl _ _).set wf hg bD⟩
    ·rw[←hA];exact kS hg rZ hl hb Bx hy
    ·rw[cA wf bD,if_pos rfl]
     simp only[dE,List.take_left',List.append_assoc]
     congr 3
     rw[List.drop_append]
     simp
   ·cases cap with
    | none =>
     refine⟨.sl h.n sz 0 (xs.length+ys.length),(h.set id .dead).push (.arr ety sz (xs++ys) none),?_,.arr h.n [] none (by simp) ?_ (by exact aM) dV,((Ext.refl dV wf).set hi bD).push,((iH.refl _ _).set wf hg bD).push⟩
     ·rw[←hA]
      simp only[aY,Tq,hg]
      simp only[Bool.false_eq_true,if_false,true_and,Nat.zero_add,List.drop_zero]
      rw[if_pos ⟨by simp,hb,by omega⟩,if_neg rZ,if_pos hl]
      simp
     ·simp
    | some c =>
     refine⟨.sl h.n sz 0 (xs.length+ys.length),h.push (.arr ety sz (xs++ys) none),?_,.arr h.n [] none (by simp) ?_ (by exact aM) dV,(Ext.refl dV wf).push,(iH.refl _ _).push⟩
     ·rw[←hA]
      rw[hZ hg (by simp) (by omega) hb Bx hy]
      simp
     ·simp
structure fW(lo:Nat)(h:aA)(id ety sz:Nat)(xs:List DV):Prop where
 get:∃ sp cap,h.get id=some (.arr ety sz (xs++sp) cap)
 lim:h.lim≤id
 lo:lo≤id
theorem fW.toR{lo:Nat}{h:aA}{id ety sz:Nat}{xs:List DV}(w:fW lo h id ety sz xs):OwnR lo h (.sl id sz 0 xs.length) ety sz xs:=by
 obtain⟨⟨sp,cap,hg⟩,hl,hi⟩:=w
 exact .arr id sp cap rfl hg hl hi
theorem fW.lt{lo:Nat}{h:aA}{id ety sz:Nat}{xs:List DV}(w:fW lo h id ety sz xs):id<h.n:=by
 obtain⟨⟨sp,cap,hg⟩,_,_⟩:=w
 exact bB hg
theorem fW.fresh{lo:Nat}{h:aA}{ety sz:Nat}{xs:List DV}{cap:Option Nat}(aM:h.lim≤h.n)(dV:lo≤h.n):fW lo (h.push (.arr ety sz xs cap)) h.n ety sz xs:=⟨⟨[],cap,by simp[cN]⟩,aM,dV⟩
theorem fW.push{lo:Nat}{h:aA}{id ety sz:Nat}{xs:List DV}{o:DO}(w:fW lo h id ety sz xs):fW lo (h.push o) id ety sz xs:=by
 obtain⟨⟨sp,cap,hg⟩,hl,hi⟩:=w
 exact⟨⟨sp,cap,by rw[cN,if_neg (by have:=bB hg;omega)];exact hg⟩,hl,hi⟩
theorem fW.keep{lo:Nat}{h h':aA}{id ety e2 sz:Nat}{xs:List DV}(w:fW lo h id e2 sz xs)(x:iH ety h h')(hl:h'.lim=h.lim)(eG:e2≠ety):fW lo h' id e2 sz xs:=by
 obtain⟨⟨sp,cap,hg⟩,aM,hi⟩:=w
 exact⟨⟨sp,cap,x _ _ hg (fun s ys c e=>by injection e with e1;exact eG e1)⟩,by rw[hl];exact aM,hi⟩
theorem fW.aW{lo:Nat}{h:aA}{id ety sz:Nat}{xs:List DV}(w:fW lo h id ety sz xs)(wf:WF h){k:Nat}{o:DO}(fS:k<lo)(hn:k<h.n):fW lo (h.set k o) id ety sz xs:=by
 obtain⟨⟨sp,cap,hg⟩,hl,hi⟩:=w
 exact⟨⟨sp,cap,by rw[cA wf hn,if_neg (by omega)];exact hg⟩,hl,hi⟩
theorem fW.wl{lo:Nat}{h:aA}{id ety sz:Nat}{xs:List DV}(w:fW lo h id ety sz xs){m:Nat}(hm:m≤lo):fW lo (Dm.wl h m) id ety sz xs:=by
 obtain⟨⟨sp,cap,hg⟩,hl,hi⟩:=w
 exact⟨⟨sp,cap,hg⟩,Nat.le_trans hm hi,hi⟩
theorem fW.ext{lo:Nat}{h h':aA}{id ety sz:Nat}{xs:List DV}(w:fW lo h id ety sz xs)(x:Ext h.n h h'):fW lo h' id ety sz xs:=by
 have:=w.lt
 obtain⟨⟨sp,cap,hg⟩,hl,hi⟩:=w
 exact⟨⟨sp,cap,(x.get id this).trans hg⟩,by rw[x.lim];exact hl,hi⟩
theorem fW.append{lo:Nat}{h:aA}{id ety sz bytes:Nat}{xs ys:List DV}{A:Option (DV×aA)}{n:Nat}(w:fW lo h id ety sz xs)(hn:n=xs.length)(wf:WF h)(dV:lo≤h.n)(aM:h.lim≤h.n)(hA:aY h ety sz bytes (.sl id sz 0 n) ys=A)
  (hb:(xs.length+ys.length)*bytes≤140737488355328) (Bx:1≤bytes):∃ id' h',A=some (.sl id' sz 0 (xs.length+ys.length),h')∧fW lo h' id' ety sz (xs++ys)∧Ext lo h h'∧iH ety h h'∧(id'=id∨h.n≤id'):=by
 subst hn
 have hm:xs.length+ys.length≤140737488355328:=Nat.le_trans (Nat.le_mul_of_pos_right _ Bx) hb
 by_cases hy:ys=[]
 ·subst hy
  refine⟨id,h,?_,by simpa using w,.refl dV wf,.refl _ _,.inl rfl⟩
  rw[←hA];rfl
 ·have Tq:ys.isEmpty=false:=by cases ys<;>simp_all
  obtain⟨⟨sp,cap,hg⟩,hl,hi⟩:=w
  have bD:=bB hg
  by_cases rZ:xs.length+ys.length≤(xs++sp).length
  ·refine⟨id,h.set id (.arr ety sz (dE (xs++sp) ys xs.length) cap),?_,⟨⟨sp.drop ys.length,cap,?_⟩,hl,hi⟩,(Ext.refl dV wf).set hi bD,(iH.refl _ _).set wf hg bD,.inl rfl⟩
   ·rw[←hA];exact kS hg rZ hl hb Bx hy
   ·rw[cA wf bD,if_pos rfl]
    simp only[dE,List.take_left',List.append_assoc]
    congr 3
    rw[List.drop_append]
    simp
  ·cases cap with
   | none =>
    refine⟨h.n,(h.set id .dead).push (.arr ety sz (xs++ys) none),?_,⟨⟨[],none,?_⟩,aM,dV⟩,((Ext.refl dV wf).set hi bD).push,((iH.refl _ _).set wf hg bD).push,.inr (Nat.le_refl _)⟩
    ·rw[←hA]
     simp only[aY,Tq,hg]
     simp only[Bool.false_eq_true,if_false,true_and,Nat.zero_add,List.drop_zero]
     rw[if_pos ⟨by simp,hb,by omega⟩,if_neg rZ,if_pos hl]
     simp
    ·simp
   | some c =>
    refine⟨h.n,h.push (.arr ety sz (xs++ys) none),?_,⟨⟨[],none,?_⟩,aM,dV⟩,(Ext.refl dV wf).push,(iH.refl _ _).push,.inr (Nat.le_refl _)⟩
    ·rw[←hA]
     rw[hZ hg (by simp) (by omega) hb Bx hy]
     simp
    ·simp
theorem HC(h:aA)(t:Bool)(sz:Nat)(xs:List DV):elems h sz (.isl t sz xs)=some xs:=by simp[elems]
theorem LE(t:Bool)(sz:Nat)(xs:List DV):Jl (.isl t sz xs)=none:=_root_.id rfl
theorem GA(t:Bool)(sz:Nat)(xs:List DV):mapId (.isl t sz xs)=none:=_root_.id rfl
theorem Wu{α:Type}(h:aA)(t:Bool)(sz:Nat)(e:α→DV)(xs:List α)(k:IntKind)(i:Nat)(hi:i≤xs.length):iI h sz (eL t sz e xs) none (some (.int k (i:Int)))=some (.isl (t && !xs.isEmpty) sz ((xs.take i).map e)):=by
 cases xs with
 | nil =>
  have h0:i=0:=by simpa using hi
  subst h0
  simp[hY,iI,dQ,asI]
 | cons x xs =>
  have h2:(i:Int)≤((xs.length+1:Nat):Int):=by simp at hi;omega
  rw[wB]
  simp only[iI,List.length_cons,List.length_map,dQ,asI]
  simp only[List.isEmpty_cons,Bool.not_false,Bool.and_true,true_or,if_true,Int.natCast_nonneg,h2,and_self,Int.toNat_natCast,List.drop_zero,Nat.sub_zero]
  rw[←List.map_cons,←List.map_take]
theorem Ci{α:Type}(h:aA)(t:Bool)(sz:Nat)(e:α→DV)(xs:List α)(k:IntKind)(i:Nat)(hi:i≤xs.length):iI h sz (eL t sz e xs) (some (.int k (i:Int))) none=some (.isl (t && !xs.isEmpty) sz ((xs.drop i).map e)):=by
 cases xs with
 | nil =>
  have h0:i=0:=by simpa using hi
  subst h0
  simp[hY,iI,dQ,asI]
 | cons x xs =>
  have h2:(i:Int)≤((xs.length+1:Nat):Int):=by simp at hi;omega
  rw[wB]
  simp only[iI,List.length_cons,List.length_map,dQ,asI]
  simp only[List.isEmpty_cons,Bool.not_false,Bool.and_true,true_or,if_true,Int.natCast_nonneg,h2,and_self,Int.toNat_natCast]
  rw[←List.map_cons,←List.map_drop,List.take_of_length_le (by simp)]
theorem Sc{α:Type}(h:aA)(t:Bool)(sz:Nat)(e:α→DV)(xs:List α)(k:IntKind)(i:Nat)(hi:i+1≤xs.length):iI h sz (eL t sz e xs) (some (.int k ((i:Int)+1))) none=some (.isl (t && !xs.isEmpty) sz ((xs.drop (i+1)).map e)):=by
 have:=Ci h t sz e xs k (i+1) hi
 rwa[Int.natCast_add]at this
attribute [simp] HC LE GA Wu Ci Sc
theorem mC{α:Type}{f:α×α→Bool}:∀{l:List α},(∀x∈l,f (x,x)=true)→(l.zip l).all f=true:=by
 intro l
 induction l with
 | nil=>intro _;rfl
 | cons x r ih =>
  intro h
  rw[List.zip_cons_cons,List.all_cons,h x (List.mem_cons_self ..),ih fun y hy=>h y (List.mem_cons_of_mem _ hy)];rfl
theorem mB(n:Nat):Nat.beq n n=true:=by simp[Nat.beq_eq]
inductive Dep:Nat→DV→Prop where
 | int (k:IntKind) (n:Int) {d:Nat}:Dep (d+1) (.int k n)
 | bool (b:Bool) {d:Nat}:Dep (d+1) (.bool b)
 | str (s:List UInt8) {d:Nat}:Dep (d+1) (.str s)
 | isl (t:Bool) (sz:Nat) (xs:List DV) {d:Nat} (h:∀x∈xs,Dep d x):Dep (d+1) (.isl t sz xs)
 | agg (xs:List DV) {d:Nat} (h:∀x∈xs,Dep d x):Dep (d+1) (.agg xs)
theorem Dep.same{d:Nat}{v:DV}(h:Dep d v):∀{n:Nat},d≤n→same n v v=true:=by
 induction h with
 | int k n=>intro m hm;obtain⟨q,rfl,_⟩:=cM hm;simp[Dm.same]
 | bool b=>intro m hm;obtain⟨q,rfl,_⟩:=cM hm;simp[Dm.same]
 | str s=>intro m hm;obtain⟨q,rfl,_⟩:=cM hm;simp[Dm.same]
 | isl t sz xs h ih =>
  intro m hm;obtain⟨q,rfl,hq⟩:=cM hm
  simp only[Dm.same,mB,beq_self_eq_true,Bool.true_and]
  exact mC fun x hx=>ih x hx hq
 | agg xs h ih =>
  intro m hm;obtain⟨q,rfl,hq⟩:=cM hm
  simp only[Dm.same,mB,Bool.true_and]
  exact mC fun x hx=>ih x hx hq
theorem Dep.belowN{d:Nat}{v:DV}(h:Dep d v):∀{n N:Nat},d≤n→Dm.gG n N v=true:=by
 induction h with
 | int k n=>intro m N hm;obtain⟨q,rfl,_⟩:=cM hm;rfl
 | bool b=>intro m N hm;obtain⟨q,rfl,_⟩:=cM hm;rfl
 | str s=>intro m N hm;obtain⟨q,rfl,_⟩:=cM hm;rfl
 | isl t sz xs h ih=>intro m N hm;obtain⟨q,rfl,hq⟩:=cM hm;rfl
 | agg xs h ih =>
  intro m N hm;obtain⟨q,rfl,hq⟩:=cM hm
  simp only[Dm.gG,List.all_eq_true]
  exact fun x hx=>ih x hx hq
theorem Dep.eL{α:Type}{d:Nat}(t:Bool)(sz:Nat){e:α→DV}{xs:List α}(h:∀x∈xs,Dep d (e x)):Dep (d+1) (eL t sz e xs):=by
 cases xs with
 | nil=>exact .isl _ _ _ (fun x hx=>by cases hx)
 | cons x r =>
  rw[wB,←List.map_cons]
  refine .isl _ _ _ fun y hy=>?_
  obtain⟨z,hz,rfl⟩:=List.mem_map.1 hy
  exact h z hz
theorem Mb(c:fB):Dep 2 (aO c):=.agg _ (by
 intro x hx;simp only[List.mem_cons,List.not_mem_nil,or_false]at hx
 rcases hx with rfl|rfl|rfl|rfl|rfl<;>first|exact .int _ _|exact .str _)
theorem Ma(p:bI):Dep 3 (bF p):=.eL _ _ fun c _=>Mb c
theorem Dep.mono{d:Nat}{v:DV}(h:Dep d v):∀{e:Nat},d≤e→Dep e v:=by
 induction h with
 | int k n=>intro e he;obtain⟨q,rfl,_⟩:=cM he;exact .int _ _
 | bool b=>intro e he;obtain⟨q,rfl,_⟩:=cM he;exact .bool _
 | str s=>intro e he;obtain⟨q,rfl,_⟩:=cM he;exact .str _
 | isl t sz xs h ih=>intro e he;obtain⟨q,rfl,hq⟩:=cM he;exact .isl _ _ _ fun x hx=>ih x hx hq
 | agg xs h ih=>intro e he;obtain⟨q,rfl,hq⟩:=cM he;exact .agg _ fun x hx=>ih x hx hq
theorem PC(x:ID):Dep 4 (eID x):=.agg _ (by
 intro x hx;simp only[List.mem_cons,List.not_mem_nil,or_false]at hx
 rcases hx with rfl|rfl<;>exact .int _ _)
theorem Mc(a:bC):Dep 4 (aG a):=.agg _ (by
 intro x hx;simp only[List.mem_cons,List.not_mem_nil,or_false]at hx
 rcases hx with rfl|rfl|rfl|rfl<;>first|exact .int _ _|exact Ma _)
theorem Pn(a:aV):Dep 4 (aD a):=.agg _ (by
 intro x hx;simp only[List.mem_cons,List.not_mem_nil,or_false]at hx
 rcases hx with rfl|rfl|rfl|rfl|rfl|rfl|rfl<;>first|exact .int _ _|exact Ma _|exact .bool _)
theorem VC(a:fV):Dep 4 (cT a):=.agg _ (by
 intro x hx;simp only[List.mem_cons,List.not_mem_nil,or_false]at hx
 rcases hx with rfl|rfl|rfl<;>first|exact .int _ _|exact Ma _)
theorem jM{cs:List DV}(h:∀x∈cs,jU 1 x):jU 20 (.agg cs):=(xQ h).mono (by decide)
theorem lA{cs:List DV}(h:∀x∈cs,Unl 21 x):Unl 22 (.agg cs):=Pv h
theorem qC(x:ID):jU 20 (eID x)∧Unl 22 (eID x):=⟨jM (by
 intro x hx;simp only[List.mem_cons,List.not_mem_nil,or_false]at hx
 rcases hx with rfl|rfl<;>exact fA _ _),lA (by
 intro x hx;simp only[List.mem_cons,List.not_mem_nil,or_false]at hx
 rcases hx with rfl|rfl<;>exact(lF _ _).mono (by decide))⟩
theorem iK(a:bC):jU 20 (aG a)∧Unl 22 (aG a):=⟨jM (by
 intro x hx;simp only[List.mem_cons,List.not_mem_nil,or_false]at hx
 rcases hx with rfl|rfl|rfl|rfl<;>first|exact fA _ _|exact Fh _),lA (by
 intro x hx;simp only[List.mem_cons,List.not_mem_nil,or_false]at hx
 rcases hx with rfl|rfl|rfl|rfl<;>first|exact(lF _ _).mono (by decide)|exact tT _)⟩
theorem cC(a:aV):jU 20 (aD a)∧Unl 22 (aD a):=⟨jM (by
 intro x hx;simp only[List.mem_cons,List.not_mem_nil,or_false]at hx
 rcases hx with rfl|rfl|rfl|rfl|rfl|rfl|rfl<;>first|exact fA _ _|exact Fh _|exact pP _),lA (by
 intro x hx;simp only[List.mem_cons,List.not_mem_nil,or_false]at hx
 rcases hx with rfl|rfl|rfl|rfl|rfl|rfl|rfl<;>first|exact(lF _ _).mono (by decide)|exact tT _|exact(wV _).mono (by decide))⟩
theorem lY(a:fV):jU 20 (cT a)∧Unl 22 (cT a):=⟨jM (by
 intro x hx;simp only[List.mem_cons,List.not_mem_nil,or_false]at hx
 rcases hx with rfl|rfl|rfl<;>first|exact fA _ _|exact Fh _),lA (by
 intro x hx;simp only[List.mem_cons,List.not_mem_nil,or_false]at hx
 rcases hx with rfl|rfl|rfl<;>first|exact(lF _ _).mono (by decide)|exact tT _)⟩
theorem kL(n:Int):jU 20 (bQ n)∧Unl 22 (bQ n):=⟨(fA _ _).mono (by decide),(lF _ _).mono (by decide)⟩
theorem lZ(c:fB):jU 20 (aO c)∧Unl 22 (aO c):=⟨Ao.flat c,(Ao.unl c).mono (by decide)⟩
theorem RC(n:Nat)(xs:List Int):bJ (n+23) (eL false 1 bQ xs)=true:=eV (fun x _=>(kL x).2) _ (by omega)
theorem WW(n:Nat)(xs:List ID):bJ (n+23) (eL false 2 eID xs)=true:=eV (fun x _=>(qC x).2) _ (by omega)
theorem F7(n:Nat)(xs:List bC):bJ (n+23) (eL false 4 aG xs)=true:=eV (fun x _=>(iK x).2) _ (by omega)
theorem F6(n:Nat)(xs:List aV):bJ (n+23) (eL false 7 aD xs)=true:=eV (fun x _=>(cC x).2) _ (by omega)
theorem X5(n:Nat)(xs:List fV):bJ (n+23) (eL false 3 cT xs)=true:=eV (fun x _=>(lY x).2) _ (by omega)
attribute [simp] RC WW F7 F6 X5
end Go.Dm
namespace Go.Dm
open Go.RowKit
theorem IF {P : Program} {D : dA} (G : X3 P D) {f : Nat} {fn : Func} {body : Code} (hf : P.funcs[f]? = some fn) (hb : fn.body = some body) (hn : fn.name ≠ "runtime.NumGoroutine") {ds : List DV} {vs : List Value} {h' : aA} (hr : fc D f ds pQ = some (.bool true, h')) (w : World) (hg : X2 w) (hv : VRs (V1 w) ds vs) :
  Calls P f vs.toArray w fun e w'=>e=.returned (.bool true)∧Grown w w'∧∀b,b<w.heap.size→w'.heap[b]?=w.heap[b]?:=by
 obtain⟨n,he⟩:=Ue.1 hr
 have hc:=V8 G n f ds pQ _ h' (V1 w) vs he (rel0 w hg) hv
 have hen:=oP hf hb hn vs.toArray w
 rcases hc with⟨v,w',nL,_⟩|⟨f',vals',nL,hcalls⟩
 ·have:(callFunc f vs.toArray).run P w=.ok (.value v) w':=nL
  rw[hen]at this
  cases this
 ·have h2:(callFunc f vs.toArray).run P w=.ok (.enter f' vals') w:=nL
  rw[hen]at h2
  cases h2
  refine hcalls.mono fun e w' hp=>?_
  obtain⟨v,e1,ρ',k1,k2,k3⟩:=hp
  exact⟨by rw[e1,k3.bool_inv],Zj k2,fun b hb=>k2.frame b hb fun h=>h⟩
structure zM(c:Ctx)(w:World):Prop where
 w:c.w=w
 O:∀b,¬c.O b
 X:∀b,¬c.X b
theorem zM.zero(w:World):zM (V1 w) w:=⟨rfl,fun _ h=>h,fun _ h=>h⟩
theorem zM.still{c:Ctx}{w:World}(h:zM c w):zM c.still w:=⟨h.w,h.O,h.X⟩
theorem AX{α:Type}{p:Nat→α→Prop}:∀n,(∀i,i<n→∃ a,p i a)→∃ l:List α,l.length=n∧∀i (hi:i<l.length),p i l[i]
 | 0,_=>⟨[],rfl,fun i hi=>absurd hi (Nat.not_lt_zero _)⟩
 | n+1,h=>by
  obtain⟨l,hl,hp⟩:=AX n fun i hi=>h i (Nat.lt_succ_of_lt hi)
  obtain⟨a,ha⟩:=h n (Nat.lt_succ_self n)
  refine⟨l++[a],by simp[hl],fun i hi=>?_⟩
  by_cases bD:i<l.length
  ·rw[List.getElem_append_left bD];exact hp i bD
  ·have:i=n:=by simp at hi;omega
   subst this
   rw[List.getElem_append_right (by omega)]
   simpa[hl]using ha
theorem D4(b o n:Nat):(⟨b,o,none⟩:Addr).add n=⟨b,o+n,none⟩:=by
 unfold Addr.add
 split
 ·rename_i h;subst h;rfl
 ·rfl
theorem RQ{w:World}{a:Addr}{v:Value}(h:w.cell? a=some v):a.spot=none∧a.block<w.heap.size:=by
 unfold World.cell? at h
 split at h
 ·rename_i hb
  refine⟨?_,?_⟩
  ·split at h
   ·cases h
   ·rename_i hs;cases hs2:a.spot with|none=>rfl|some x=>simp[hs2]at hs
  ·by_cases bD:a.block<w.heap.size
   ·exact bD
   ·rw[Array.getElem?_eq_none (by omega)]at hb;cases hb
 ·cases h
def kA(c:Ctx)(ds:List DV)(cs:List Value):Prop:=ds.length=cs.length∧∀i (h1:i<ds.length) (h2:i<cs.length),VR c ds[i] cs[i]∧(cs[i]).oneCell'=true
theorem kA.append{c:Ctx}{ds ds':List DV}{cs cs':List Value}(h:kA c ds cs)(h':kA c ds' cs'):kA c (ds++ds') (cs++cs'):=by
 refine⟨by rw[List.length_append,List.length_append,h.1,h'.1],fun i h1 h2=>?_⟩
 by_cases bD:i<ds.length
 ·rw[List.getElem_append_left bD,List.getElem_append_left (by rw[←h.1];exact bD)]
  exact h.2 i bD _
 ·rw[List.getElem_append_right (by omega),List.getElem_append_right (by rw[←h.1];omega)]
  have:i-cs.length=i-ds.length:=by rw[h.1]
  simp only[this]
  exact h'.2 (i-ds.length) (by rw[List.length_append]at h1;omega) _
theorem kA.one{c:Ctx}{d:DV}{v:Value}(h:VR c d v)(h1:v.oneCell'=true):kA c [d] [v]:=by
 refine⟨rfl,fun i h2 h3=>?_⟩
 have:i=0:=by simp at h2;omega
 subst this
 exact⟨h,h1⟩
theorem kA.nil{c:Ctx}:kA c [] []:=⟨rfl,fun i h=>absurd h (Nat.not_lt_zero _)⟩
section
variable {H:Type} {enc:TypeId×Value→H} {P:Program} {w:World} {sp:Nat→Bool} {kY:Bool}
theorem jE{t:TypeId}{cs:List Value}{fuel:Nat}{x:DataW H×List MemPlace}(ht:P.underlying t=some (.int .i64))(h:DataW.trod enc P w 0 sp kY fuel t cs=some x)(c:Ctx):∃ n:Int,kA c [.int .i64 n] cs:=by
 obtain⟨n,rfl,_,_⟩:=DataW.trod_int ht h
 exact⟨n,.one (.int _ _) rfl⟩
theorem Jw{α:Type}{t e:TypeId}{cs:List Value}{fuel sz:Nat}{x:DataW H×List MemPlace}(ht:P.underlying t=some (.slice e))(hz:P.cellsOf e=sz)(hz0:0<sz)(h:DataW.trod enc P w 0 sp kY fuel t cs=some x){c:Ctx}(hc:zM c w)
  (en:α→DV) (OL:α→Prop) (lC:∀ecs y n,DataW.trod enc P w 0 sp kY n e ecs=some y→∃ a,OL a∧kA c.still (aP sz (en a)) ecs) :
  ∃ l:List α,(∀a∈l,OL a)∧l.length≤maxLen∧kA c [eL false sz en l] cs:=by
 rcases DataW.trod_slice ht h with⟨rfl,_⟩|⟨a,len,cap,elems,rest,n,_,rfl,_,hb,hl,kO,hel1,hel2,_⟩
 ·exact⟨[],fun a h=>(by cases h),Nat.zero_le _,.one (.isl0 _ _) rfl⟩
 ·rw[hz]at hel2
  have WH:∀i,i<len→∃ p:α×List Value,OL p.1∧w.cells? 0 (a.add (i*sz)) sz=some p.2∧kA c.still (aP sz (en p.1)) p.2:=fun i hi=>by
   have h1:=hel2 i hi
   rw[List.getElem?_eq_getElem (by omega)]at h1
   simp only[Option.bind_eq_some_iff]at h1
   obtain⟨ecs,h2,h3⟩:=h1
   obtain⟨b,h4,h5⟩:=lC _ _ _ h3
   exact⟨(b,ecs),h4,h2,h5⟩
  obtain⟨l,Ec,hlp⟩:=AX len WH
  refine⟨l.map (·.1),?_,by rw[List.length_map,Ec];omega,.one ?_ rfl⟩
  ·intro b hb
   obtain⟨p,hp,rfl⟩:=List.mem_map.1 hb
   obtain⟨i,hi,rfl⟩:=List.mem_iff_getElem.1 hp
   exact(hlp i hi).1
  ·by_cases h0:len=0
   ·have:l=[]:=List.eq_nil_of_length_eq_zero (by omega)
    subst this
    subst h0
    exact .isl0 _ _
   ·have eG:l≠[]:=fun e=>h0 (by rw[←Ec,e];rfl)
    have Kt:l.map (·.1)≠[]:=by simpa using eG
    have zU:∀i (hi:i<l.length) j,j<sz→w.cell? ((a.add (i*sz)).add j)=(l[i]).2[j]?∧(l[i]).2.length=sz:=fun i hi j hj=>by
     obtain⟨_,k2,k3⟩:=World.cells?_some (hlp i hi).2.1
     exact⟨k3 j hj,k2⟩
    have zG:0<l.length:=by omega
    have h00:=zU 0 zG 0 hz0
    have ha0:(a.add (0*sz)).add 0=a:=by simp[Addr.add]
    rw[ha0,List.getElem?_eq_getElem (by rw[h00.2];exact hz0)]at h00
    obtain⟨hs,hbk⟩:=RQ h00.1
    obtain⟨b,o,s⟩:=a
    simp only at hs hbk
    subst hs
    rw[WK false sz en Kt]
    have T1:∀i (hi:i<l.length) j (hj:j<sz),w.cell? ⟨b,o+i*sz+j,none⟩=some ((l[i]).2[j]'(by rw[(zU i hi j hj).2];exact hj)):=fun i hi j hj=>by
     have k1:=(zU i hi j hj).1
     rw[D4,D4]at k1
     exact k1.trans (List.getElem?_eq_getElem _)
    refine .isl (fun i j=>(w.cell? ⟨b,o+i*sz+j,none⟩).getD undef) (by simp[Ec]) hl (by rw[hc.w];exact hbk) (hc.O b) (fun _=>hc.X b) ?_ ?_ ?_
    ·intro i hi
     simp only[List.length_map]at hi
     simp only[List.getElem_map]
     have:=(hlp i hi).2.2.1
     rw[this]
     exact(zU i hi 0 hz0).2
    ·intro i j hi hj
     simp only[List.length_map]at hi
     rw[hc.w,T1 i hi j hj]
     have h5:=(hlp i hi).2.2
     have h6:=(zU i hi j hj).2
     exact⟨rfl,(h5.2 j (by rw[h5.1,h6];exact hj) (by rw[h6];exact hj)).2⟩
    ·intro i hi j hj
     simp only[List.length_map]at hi
     simp only[List.getElem_map]at hj ⊢
     have h5:=(hlp i hi).2.2
     have h6:=(zU i hi 0 hz0).2
     have wS:j<sz:=by rw[h5.1,h6]at hj;exact hj
     have h7:=(h5.2 j hj (by rw[h6];exact wS)).1
     have h8:(w.cell? ⟨b,o+i*sz+j,none⟩).getD undef=(l[i]).2[j]'(by rw[h6];exact wS):=by rw[T1 i hi j wS];rfl
     simp only[h8]
     exact h7
theorem RX{w':World}(hg:∀b,b<w.heap.size→w'.heap[b]?=w.heap[b]?){p:MemPlace}(hp:p.block<w.heap.size):w.sameAt w' p:=by
 cases p with
 | cell b off =>
  show w'.cell? ⟨b,off,none⟩=w.cell? ⟨b,off,none⟩
  unfold World.cell?
  rw[hg b hp]
 | map b=>exact hg b hp
theorem Cc{w':World}(hg:∀b,b<w.heap.size→w'.heap[b]?=w.heap[b]?)(sp':Nat→Bool):∀{ts:List TypeId} {vs:List Value} {ds:List (DataW H)} {ps:List MemPlace},DataW.TrodAll enc P w 0 sp' kY ts vs ds ps→(∀p∈ps,p.block<w.heap.size)→DataW.TrodAll enc P w' 0 sp' kY ts vs ds ps
 | [],[],[],_,h,_=>h
 | t::ts,v::vs,d::ds,ps,h,hl=>by
  obtain⟨p,q,⟨fuel,h1⟩,h2,rfl⟩:=h
  exact⟨p,q,⟨fuel,DataW.trod_carry _ _ _ _ h1 fun x hx=>RX hg (hl x (List.mem_append.2 (.inl hx)))⟩,Cc hg sp' h2 fun x hx=>hl x (List.mem_append.2 (.inr hx)),rfl⟩
end
end Go.Dm
