/- A part of the proof. -/
import Derived.Test.YtfkbogedodngeaaGreatDoorMm3
import Derived.RowKit3
import Derived.Lib.Overlaps
import Derived.Lib.Bytealg
import Derived.Below
import Derived.Sort.Row
import Derived.Sort.Grow
set_option linter.all false
namespace Go.Dm
structure Mm(P:Program)(D:cL):Prop where
 mixed:P.follows .mixedOrders=true
 comp:∀f df,D.fn f=some df→∃ fn,P.funcs[f]?=some fn∧aH P fn df.mode=some df
 hooks:∀f hk,D.hook f=some hk→∀args h d h' c vals,hk h args=some (d,h')→Rel h c→VRs c args vals→Kv P f vals.toArray h c h' d
 keep:yD D
section
variable {P:Program} {D:cL}
def yE(P:Program)(D:cL)(n:Nat):Prop :=
 ∀code dc h c env a e bA h' Q,bW P code=some dc→dT D n dc env h=.ok e bA h'→Rel h c→cQ c env a→(∀a' w',St c h' bA a' w'→Q (Do e) a' w')→code.wp P Q a c.w
def Oc(P:Program)(D:cL)(n:Nat):Prop :=
 ∀code dc h c env a e bA h' Q,bW P code=some dc→dT D n (.loop dc) env h=.ok e bA h'→Rel h c→cQ c env a→(∀a' w',St c h' bA a' w'→Q (Do e) a' w')→Code.rounds P code Q n a c.w
theorem Nr{c:Ctx}{args:List DV}{vals:List Value}(hv:VRs c args vals)(n:Nat) :
  cQ c (args++List.replicate (n-args.length) bR) {tmps:=vals.toArray++Array.replicate (n-vals.toArray.size) Go.undef,defers:=[]}:=by
 have hl:=hv.1
 refine⟨by simp[hl],rfl,fun i hi=>?_⟩
 simp only[List.length_append,List.length_replicate]at hi
 by_cases h1:i<args.length
 ·have h2:i<vals.length:=by omega
  rw[List.getElem_append_left h1]
  have:=hv.2 i h1 h2
  simpa[Array.getElem?_append,h2]using this
 ·rw[List.getElem_append_right (by omega)]
  simp only[List.getElem_replicate]
  have h2:¬i<vals.length:=by omega
  have h3:i-vals.length<n-vals.length:=by omega
  have:(vals.toArray++Array.replicate (n-vals.toArray.size) Go.undef).getD i Go.undef=Go.undef:=by
   simp[Array.getElem?_append,h2,h3]
  rw[this]
  exact .undef
theorem rC{n : Nat}(hC : yE P D n){fn : Func}{body : Code}{df : aS}(hb : fn.body = some body)(Ti : bW P body = some df.body)(LA : fn.results.toList.mapM (Cg P) = some df.results)(hnt : df.ntmps = fn.ntmps)
    {f : Nat} (hf : P.funcs[f]? = some fn) {args : List DV} {vals : List Value} {h : aA} {c : Ctx} (hR : Rel h c) (hv : VRs c args vals) {d : DV} {h' : aA}
    (he : (match dT D n df.body (args ++ List.replicate (df.ntmps - args.length) bR) h with
          | .ok (.exit _) _ _ => none
          | .ok _ env h' => match aT h' env df.results with
            | some v => some (v, h')
            | none => none
          | .fail => none) = some (d, h')) : Calls P f vals.toArray c.w (tU h c h' d) := by
  have fin : ∀ e bA h1, e = Ex.normal ∨ e = Ex.ret → dT D n df.body (args ++ List.replicate (df.ntmps - args.length) bR) h = .ok e bA h1 → aT h1 bA df.results = some d → h1 = h' → Calls P f vals.toArray c.w (tU h c h' d) := by
    intro e bA h1 GL jN hres e1
    subst e1
    refine calls_of_wp hf hb (hC body df.body h c _ _ e bA h1 _ Ti jN hR (by have := Nr hv df.ntmps; rw[hnt]at this ⊢; exact this) fun a' w' cW => ?_)
    obtain⟨ρ', k1, k2, k3⟩ := cW
    obtain⟨v, r1, r2⟩ := Ll (P := P) (fn := fn) LA k1 k3 hres
    have : a'.defers = [] ∧ ∃ v, (results fn a'.tmps).run P w' = .ok v w' ∧ tU h c h1 d (.returned v) w' := ⟨k3.defers, v, r1, v, rfl, ρ', k1, k2, r2⟩
    rcases GL with rfl | rfl
    · exact this
    · exact this
  split at he
  · cases he
  · rename_i e bA h1 dW jN
    split at he
    · rename_i v hres
      cases he
      refine fin e bA _ ?_ jN hres rfl
      cases e with
      | normal => exact .inl rfl
      | exit id => exact absurd rfl (dW id)
      | ret => exact .inr rfl
    · cases he
  · cases he
theorem Xu(hk : yD D){n : Nat}{df : aS}{args : List DV}{h h' : aA}{d : DV}(hl : h.lim ≤ h.n)
    (he : (match dT D n df.body (args ++ List.replicate (df.ntmps - args.length) bR) h with
          | .ok (.exit _) _ _ => none
          | .ok _ env h' => match aT h' env df.results with
            | some v => some (v, h')
            | none => none
          | .fail => none) = some (d, h')) : eS h h' := by
  split at he
  · cases he
  · rename_i h2
    split at he
    · cases he; exact Jz hk n _ _ _ _ _ _ hl h2
    · cases he
  · cases he
theorem lD {f : FuncId} {fn : Func} {body : Code} (hf : P.funcs[f]? = some fn) (hb : fn.body = some body) (hn : fn.name ≠ "runtime.NumGoroutine") (vals : Array Value) (w : World) : (callFunc f vals).run P w = .ok (.enter f vals) w := by
 simp[callFunc,hf,hb,hn]
theorem wT(G:Mm P D){n:Nat}(hC:yE P D n):kB P (enter (dT D n) D):=by
 intro f args h d h' c vals he hR hv
 unfold enter at he
 split at he
 ·rename_i hk pP;exact G.hooks f hk pP args h d h' c vals he hR hv
 ·split at he
  ·cases he
  ·rename_i df hdf
   obtain⟨fn,hf,NT⟩:=G.comp f df hdf
   unfold aH at NT
   split at NT
   ·rename_i body hb
    split at NT
    ·rename_i b rs Ti LA
     split at NT
     ·rename_i Bp
      refine .inr ⟨f,vals.toArray,lD hf hb Bp _ _,?_⟩
      have hdfe:df={ntmps:=fn.ntmps,results:=rs,body:=b,mode:=df.mode}:=(Option.some.inj NT).symm
      have e1:df.body=b:=by rw[hdfe]
      have e2:df.results=rs:=by rw[hdfe]
      have e3:df.ntmps=fn.ntmps:=by rw[hdfe]
      simp only at he
      split at he
      ·exact rC hC hb (by rw[e1];exact Ti) (by rw[e2];exact LA) e3 hf hR hv he
      ·split at he
       ·rename_i v1 h1 Nn
        cases he
        have:=rC hC hb (by rw[e1];exact Ti) (by rw[e2];exact LA) e3 hf (hR.setLim (Nat.le_refl _)) hv Nn
        refine this.mono fun e w' hp=>?_
        obtain⟨v,e0,ρ',k1,k2,k3⟩:=hp
        have Jf:=Xu G.keep (Nat.le_refl _) Nn
        exact⟨v,e0,ρ',k1.setLim (Nat.le_trans hR.lim Jf.n),k2,k3⟩
       ·cases he
      ·split at he
       ·rename_i ds Er
        split at he
        ·rename_i v1 h1 Nn
         split at he
         ·rename_i d1 N9
          split at he
          ·rename_i NL
           cases he
           have:=rC hC hb (by rw[e1];exact Ti) (by rw[e2];exact LA) e3 hf hR.lend (Ej hR Er hv) Nn
           refine this.mono fun e w' hp=>?_
           obtain⟨v,e0,ρ',k1,k2,k3⟩:=hp
           exact⟨v,e0,Vv hR k1 k2 k3 N9 NL⟩
          ·cases he
         ·cases he
        ·cases he
       ·cases he
      ·split at he
       ·rename_i id sz off len rest
        split at he
        ·rename_i ety eG xs hgid
         split at he
         ·rename_i cD
          obtain⟨hcond1,hcond2⟩:=cD
          subst hcond1
          split at he
          ·rename_i l hl
           split at he
           ·rename_i oH
            cases he
            have hv0:∃ v0 vr,vals=v0::vr:=by
             cases vals with
             | nil=>have:=hv.1;simp at this
             | cons v0 vr=>exact⟨v0,vr,rfl⟩
            obtain⟨v0,vr,rfl⟩:=hv0
            have hvh:VR c (.sl id sz off len) v0:=hv.2 0 (by simp) (by simp)
            obtain⟨e,cap,ρ1,hcase,k1,k2,k3⟩:=HW hR hgid hvh ((rest.map Og).foldl (·+·) 0)
            have hscn:zL h ety sz (match dT D n df.body ((.sl h.n sz off len::rest)++List.replicate (df.ntmps-(DV.sl h.n sz off len::rest).length) bR) {(h.set id .dead).push (.arr ety sz (xs++List.replicate e .unk) cap)with lim:=h.n} with
              | .ok (.exit _) _ _=>none
              | .ok _ env h'=>match aT h' env df.results with
               | some v=>some (v,h')
               | none=>none
              | .fail=>none)=some l:=by
             rcases hcase with⟨rfl,rfl⟩|⟨aZ,rfl⟩
             ·exact hl
             ·have:=List.all_eq_true.1 oH e (List.mem_range.2 aZ)
              split at this
              ·rename_i l' Fl
               rw[qI _ _ this];exact Fl
              ·cases this
            have Nn:∃ r hj,(match dT D n df.body ((.sl h.n sz off len::rest)++List.replicate (df.ntmps-(DV.sl h.n sz off len::rest).length) bR) {(h.set id .dead).push (.arr ety sz (xs++List.replicate e .unk) cap)with lim:=h.n} with
              | .ok (.exit _) _ _=>none
              | .ok _ env h'=>match aT h' env df.results with
               | some v=>some (v,h')
               | none=>none
              | .fail=>none)=some (r,hj):=by
             cases hx:(match dT D n df.body ((.sl h.n sz off len::rest)++List.replicate (df.ntmps-(DV.sl h.n sz off len::rest).length) bR) {(h.set id .dead).push (.arr ety sz (xs++List.replicate e .unk) cap)with lim:=h.n} with
              | .ok (.exit _) _ _=>none
              | .ok _ env h'=>match aT h' env df.results with
               | some v=>some (v,h')
               | none=>none
              | .fail=>none)with
             | none=>rw[hx]at hscn;cases hscn
             | some p=>exact⟨p.1,p.2,rfl⟩
            obtain⟨r,hj,Nn⟩:=Nn
            rw[Nn]at hscn
            have aO:h.n≤((h.set id .dead).push (.arr ety sz (xs++List.replicate e .unk) cap)).n:=Nat.le_succ _
            have KY:VRs (c.next c.w ρ1 ((h.set id .dead).push (.arr ety sz (xs++List.replicate e .unk) cap))) (.sl h.n sz off len::rest) (v0::vr):=by
             refine⟨hv.1,fun i h1 h2=>?_⟩
             cases i with
             | zero=>exact k3
             | succ i=>exact(hv.2 (i+1) h1 h2).mono k2
            have iO:=rC hC hb (by rw[e1];exact Ti) (by rw[e2];exact LA) e3 hf (k1.setLim aO) KY Nn
            have hkp:=Xu G.keep aO Nn
            refine iO.mono fun e w' hp=>?_
            obtain⟨v,e0,ρj,q1,q2,q3⟩:=hp
            refine⟨v,e0,BS hR hgid q1 (k2.trans q2) (fun i hi=>?_) hscn q3⟩
            have:=hkp.get i hi
            rw[this]
            exact cP hi
           ·cases he
          ·cases he
         ·cases he
        ·exact rC hC hb (by rw[e1];exact Ti) (by rw[e2];exact LA) e3 hf hR hv he
       ·exact rC hC hb (by rw[e1];exact Ti) (by rw[e2];exact LA) e3 hf hR hv he
      ·split at he
       ·rename_i as h1 ea
        obtain⟨kF,kV⟩:=Ix (fun a b c=>Mb a b c) hR hv ea
        split at he
        ·rename_i ds Er
         split at he
         ·rename_i v1 h2 Nn
          split at he
          ·rename_i d1 N9
           split at he
           ·rename_i NL
            cases he
            have:=rC hC hb (by rw[e1];exact Ti) (by rw[e2];exact LA) e3 hf kF.1.lend (Ej kF.1 Er kV) Nn
            refine this.mono fun e w' hp=>?_
            obtain⟨v,e0,ρ',k1,k2,k3⟩:=hp
            obtain⟨ρ2,p1,p2,p3⟩:=Vv kF.1 k1 k2 k3 N9 NL
            exact⟨v,e0,ρ2,p1,kF.2.trans p2,p3⟩
           ·cases he
          ·cases he
         ·cases he
        ·cases he
       ·cases he
     ·cases NT
    ·cases NT
   ·cases NT
theorem qN(a b:aM):∃ x y,Iu a b=.seq x y:=by
 unfold Iu
 cases hw:vV a b with
 | none=>exact⟨a,b,rfl⟩
 | some r =>
  unfold vV at hw
  split at hw
  ·split at hw
   ·split at hw
    ·cases hw;exact⟨_,_,rfl⟩
    ·cases hw
   ·cases hw
  ·cases hw
theorem zF{a b r:aM}(hw:vV a b=some r):∃ ds dl x it nx ok en X Y kl ops bb d1 d2 d3,a=.region ds∧ds.getLast?=some dl∧(dl.dst=some it∧dl.op=.range x∧dl.guard=none) ∧
  b=.block X (.loop (.seq (.region [d1,d2]) (.seq (.cond (.t ok) .skip (.exit X)) (.block Y (.seq (.region (d3::ops)) bb)))))∧(d1.dst=some nx∧d1.op=.next (.t it)∧d1.guard=none)∧(d2.dst=some ok∧d2.op=.extract (.t nx) 0∧d2.guard=none) ∧
  (d3.dst=some en∧d3.op=.entry (.t it)∧d3.guard=none)∧Rj bb=true∧(it≠nx∧it≠ok)∧r=.seq (.region ds.dropLast) (.walk x it nx ok en X Y kl ops bb):=by
 unfold vV at hw
 split at hw
 ·split at hw
  ·rename_i hl
   split at hw
   ·rename_i hc
    obtain⟨⟨rfl,rfl,rfl,rfl,rfl⟩,hb,dW⟩:=hc
    cases hw
    exact⟨_,_,_,_,_,_,_,_,_,_,_,_,_,_,_,rfl,hl,⟨rfl,rfl,rfl⟩,rfl,⟨rfl,rfl,rfl⟩,⟨rfl,rfl,rfl⟩,⟨rfl,rfl,rfl⟩,hb,dW,rfl⟩
   ·cases hw
  ·cases hw
 ·cases hw
theorem pW{code:Code}{ds:List aR}(hc:bW P code=some (.region ds)):∃ id ops,code=.region id ops false∧ops.toList.mapM (dR P ops.toList .write 0)=some ds:=by
 cases code<;>unfold bW at hc
 case region id ops draw =>
  cases draw with
  | false =>
   simp only[gJ,Bool.false_eq_true,if_false]at hc
   split at hc
   ·rename_i h;cases hc;exact⟨id,ops,rfl,h⟩
   ·cases hc
  | true =>
   obtain⟨cA,bs,e,_⟩:=fJ hc
   cases e
 case seq a b =>
  split at hc
  ·obtain⟨x,y,e⟩:=qN _ _
   rw[e]at hc;cases hc
  ·cases hc
 all_goals ((repeat' split at hc)<;>first|(cases hc;done)|(simp at hc;done))
theorem vG{code:Code}{a b:aM}(hc:bW P code=some (.seq a b))(hb:Rj b=true):∃ x y,code=.seq x y∧bW P x=some a∧bW P y=some b:=by
 cases code<;>unfold bW at hc
 case seq x y =>
  split at hc
  ·rename_i da db h1 h2
   cases hw:vV da db with
   | none =>
    unfold Iu at hc
    rw[hw]at hc
    cases hc
    exact⟨x,y,rfl,h1,h2⟩
   | some r =>
    obtain⟨ds,dl,x0,it,nx,ok,en,X,Y,kl,ops,bb,d1,d2,d3,_,_,_,_,_,_,_,_,_,rfl⟩:=zF hw
    unfold Iu at hc
    rw[hw]at hc
    cases hc
    cases hb
  ·cases hc
 case region id ops draw =>
  cases draw with
  | false =>
   simp only[gJ,Bool.false_eq_true,if_false]at hc
   split at hc<;>cases hc
  | true =>
   obtain⟨cA,bs,e,_⟩:=fJ hc
   cases e
 all_goals ((repeat' split at hc)<;>first|(cases hc;done)|(simp at hc;done))
theorem wX{code:Code}{X:Nat}{b:aM}(hc:bW P code=some (.block X b)):∃ y,code=.block X y∧bW P y=some b:=by
 cases code<;>unfold bW at hc
 case block id y =>
  split at hc
  ·rename_i h;cases hc;exact⟨y,rfl,h⟩
  ·cases hc
 case region id ops draw =>
  cases draw with
  | false =>
   simp only[gJ,Bool.false_eq_true,if_false]at hc
   split at hc<;>cases hc
  | true =>
   obtain⟨cA,bs,e,_⟩:=fJ hc
   cases e
 case seq a b =>
  split at hc
  ·obtain⟨x,y,e⟩:=qN _ _
   rw[e]at hc;cases hc
  ·cases hc
 all_goals ((repeat' split at hc)<;>first|(cases hc;done)|(simp at hc;done))
theorem Mg{code:Code}{b:aM}(hc:bW P code=some (.loop b)):∃ y,code=.loop y∧bW P y=some b:=by
 cases code<;>unfold bW at hc
 case loop y =>
  split at hc
  ·rename_i h;cases hc;exact⟨y,rfl,h⟩
  ·cases hc
 case region id ops draw =>
  cases draw with
  | false =>
   simp only[gJ,Bool.false_eq_true,if_false]at hc
   split at hc<;>cases hc
  | true =>
   obtain⟨cA,bs,e,_⟩:=fJ hc
   cases e
 case seq a b =>
  split at hc
  ·obtain⟨x,y,e⟩:=qN _ _
   rw[e]at hc;cases hc
  ·cases hc
 all_goals ((repeat' split at hc)<;>first|(cases hc;done)|(simp at hc;done))
theorem Mi{code:Code}{c:Opd}{a b:aM}(hc:bW P code=some (.cond c a b)):∃ o x y,code=.cond o x y∧opd o=some c∧bW P x=some a∧bW P y=some b:=by
 cases code<;>unfold bW at hc
 case cond o x y =>
  split at hc
  ·rename_i h1 h2 h3;cases hc;exact⟨o,x,y,rfl,h1,h2,h3⟩
  ·cases hc
 case region id ops draw =>
  cases draw with
  | false =>
   simp only[gJ,Bool.false_eq_true,if_false]at hc
   split at hc<;>cases hc
  | true =>
   obtain⟨cA,bs,e,_⟩:=fJ hc
   cases e
 case seq a b =>
  split at hc
  ·obtain⟨x,y,e⟩:=qN _ _
   rw[e]at hc;cases hc
  ·cases hc
 all_goals ((repeat' split at hc)<;>first|(cases hc;done)|(simp at hc;done))
theorem Mf{code:Code}(hc:bW P code=some .skip):code=.skip:=by
 cases code<;>unfold bW at hc
 case skip=>rfl
 case region id ops draw =>
  cases draw with
  | false =>
   simp only[gJ,Bool.false_eq_true,if_false]at hc
   split at hc<;>cases hc
  | true =>
   obtain⟨cA,bs,e,_⟩:=fJ hc
   cases e
 case seq a b =>
  split at hc
  ·obtain⟨x,y,e⟩:=qN _ _
   rw[e]at hc;cases hc
  ·cases hc
 all_goals ((repeat' split at hc)<;>first|(cases hc;done)|(simp at hc;done))
theorem Mh{code:Code}{X:Nat}(hc:bW P code=some (.exit X)):code=.exit X:=by
 cases code<;>unfold bW at hc
 case exit id=>cases hc;rfl
 case region id ops draw =>
  cases draw with
  | false =>
   simp only[gJ,Bool.false_eq_true,if_false]at hc
   split at hc<;>cases hc
  | true =>
   obtain⟨cA,bs,e,_⟩:=fJ hc
   cases e
 case seq a b =>
  split at hc
  ·obtain⟨x,y,e⟩:=qN _ _
   rw[e]at hc;cases hc
  ·cases hc
 all_goals ((repeat' split at hc)<;>first|(cases hc;done)|(simp at hc;done))
theorem Nh{α β:Type}{f:α→Option β}:∀{l:List α} {r:List β} {d:β},l.mapM f=some (r++[d])→∃ l' o,l=l'++[o]∧l'.mapM f=some r∧f o=some d:=by
 intro l
 induction l with
 | nil=>intro r d h;simp at h
 | cons x l ih =>
  intro r d h
  simp only[List.mapM_cons,Option.pure_def,Option.bind_eq_bind,Option.bind_eq_some_iff]at h
  obtain⟨y,hy,ys,An,h⟩:=h
  cases r with
  | nil =>
   simp only[List.nil_append,Option.some.injEq,List.cons.injEq]at h
   obtain⟨rfl,rfl⟩:=h
   have hl:=cS _ _ _ An
   have:l=[]:=List.length_eq_zero_iff.1 (by simpa using hl.symm)
   subst this
   exact⟨[],x,rfl,rfl,hy⟩
  | cons z r =>
   simp only[List.cons_append,Option.some.injEq,List.cons.injEq]at h
   obtain⟨rfl,rfl⟩:=h
   obtain⟨l',o,rfl,h1,h2⟩:=ih An
   exact⟨x::l',o,rfl,by simp[hy,h1],h2⟩
theorem A4{call:jG}{run:aM→Env→aA→Res}(iO:kB P call)
  (hcode:∀code dc h c env a e bA h' (Q:Exit→Act→World→Prop),bW P code=some dc→run dc env h=.ok e bA h'→Rel h c→cQ c env a→(∀a' w',St c h' bA a' w'→Q (Do e) a' w')→code.wp P Q a c.w)
  {x y:Code} {dx dy r1:aM} {rr:aM} (hx:bW P x=some dx) (hy:bW P y=some dy) (hw:vV dx dy=some rr) {h:aA} {c:Ctx} {env:Env} {a:Act} {e:Ex} {bA:Env} {h':aA} {Q:Exit→Act→World→Prop} {env1:Env} {h1:aA}
  {ds:List aR} {xo:Opd} {it nx ok en X Y:Nat} {kl:List Nat} {ops:List aR} {bb:aM} (hrr:rr=.seq (.region ds) (.walk xo it nx ok en X Y kl ops bb)) (he1:fL call ds env h=some (env1,h1))
  (he2:Gn call run it nx ok en X Y kl ops bb env1 h1 (tO h1 (xo.eval env1))=.ok e bA h') (hR:Rel h c) (hE:cQ c env a) (hQ:∀a' w',St c h' bA a' w'→Q (Do e) a' w'):(Code.seq x y).wp P Q a c.w:=by
 obtain⟨ds0,dl,x0,it0,nx0,ok0,en0,X0,Y0,kl0,ops0,bb0,d1,d2,d3,rfl,hlast,TI,rfl,N9,LF,XH,NN,dW,e0⟩:=zF hw
 rw[hrr]at e0
 simp only[aM.seq.injEq,aM.region.injEq,aM.walk.injEq]at e0
 obtain⟨rfl,rfl,rfl,rfl,rfl,rfl,rfl,rfl,rfl,rfl,rfl⟩:=e0
 obtain⟨idA,opsA,rfl,hmA⟩:=pW hx
 obtain⟨y1,rfl,hy1⟩:=wX hy
 obtain⟨y2,rfl,hy2⟩:=Mg hy1
 obtain⟨y3,y4,rfl,hy3,hy4⟩:=vG hy2 rfl
 obtain⟨i2,ops2,rfl,NO⟩:=pW hy3
 obtain⟨y5,y6,rfl,hy5,hy6⟩:=vG hy4 rfl
 obtain⟨okO,y7,y8,rfl,kok,hy7,hy8⟩:=Mi hy5
 rw[Mf hy7,Mh hy8]
 obtain⟨y9,rfl,hy9⟩:=wX hy6
 obtain⟨y10,v,rfl,hy10,hv⟩:=vG hy9 NN
 obtain⟨i3,ops3,rfl,hm3⟩:=pW hy10
 have hds0:ds0=ds0.dropLast++[dl]:=by
  have hne0:ds0≠[]:=by intro h0;subst h0;simp at hlast
  rw[List.getLast?_eq_some_getLast hne0]at hlast
  cases hlast
  exact(List.dropLast_concat_getLast hne0).symm
 rw[hds0]at hmA
 obtain⟨lA,oR,eA,mA,cR⟩:=Nh hmA
 obtain⟨o1,r2,e2,k1,LB⟩:∃ o1 r2,ops2.toList=o1::r2∧dR P ops2.toList .write 0 o1=some d1∧r2.mapM (dR P ops2.toList .write 0)=some [d2]:=by
  generalize ops2.toList=l at NO
  have:∀l0:List Oper,l.mapM (dR P l0 .write 0)=some [d1,d2]→∃ o1 r2,l=o1::r2∧dR P l0 .write 0 o1=some d1∧r2.mapM (dR P l0 .write 0)=some [d2]:=by
   intro l0 hm
   cases l with
   | nil=>simp at hm
   | cons o r =>
    simp only[List.mapM_cons,Option.pure_def,Option.bind_eq_bind,Option.bind_eq_some_iff]at hm
    obtain⟨y,hy,ys,An,h⟩:=hm
    cases h
    exact⟨o,r,rfl,hy,An⟩
  exact this l NO
 obtain⟨o2,rfl,k2⟩:∃ o2,r2=[o2]∧dR P ops2.toList .write 0 o2=some d2:=by
  obtain⟨l',o,e,h1,h2⟩:=Nh (r:=[]) LB
  have hl:=cS _ _ _ h1
  have:l'=[]:=List.length_eq_zero_iff.1 (by simpa using hl.symm)
  subst this
  exact⟨o,e,h2⟩
 obtain⟨o3,l3,e3,k3,k4⟩:∃ o3 l3,ops3.toList=o3::l3∧dR P ops3.toList .write 0 o3=some d3∧l3.mapM (dR P ops3.toList .write 0)=some ops:=by
  generalize ops3.toList=l at hm3
  have:∀l0:List Oper,l.mapM (dR P l0 .write 0)=some (d3::ops)→∃ o3 l3,l=o3::l3∧dR P l0 .write 0 o3=some d3∧l3.mapM (dR P l0 .write 0)=some ops:=by
   intro l0 hm
   cases l with
   | nil=>simp at hm
   | cons o r =>
    simp only[List.mapM_cons,Option.pure_def,Option.bind_eq_bind,Option.bind_eq_some_iff]at hm
    obtain⟨y,hy,ys,An,h⟩:=hm
    cases h
    exact⟨o,r,rfl,hy,An⟩
  exact this l hm3
 obtain⟨g1,g2,g3,_,_⟩:=jP cR
 rw[TI.2.1]at g1
 rw[TI.2.2]at g2
 rw[TI.1]at g3
 obtain⟨tR,xR,kT,eT,hoR,huR,hxR⟩:=Sp g1
 refine wp_seq (oU ?_)
 rw[eA]at mA g2 ⊢
 refine yR iO lA ds0.dropLast h c env a env1 h1 mA he1 hR hE fun a1 w1 cW=>?_
 obtain⟨ρ1,hR1,hle1,hE1⟩:=cW
 generalize uV:c.next w1 ρ1 h1=cc at hR1 hle1 hE1
 have hw1:w1=cc.w:=by rw[←uV];rfl
 rw[hw1]
 obtain⟨m,es,hxm,hg,hwi,oH⟩:=Mo he2
 have dX:=bM hxR hE1
 rw[hxm]at dX
 obtain⟨mb,dX,hρ⟩:=dX.map_inv
 obtain⟨es',ents,clk,lW,Bv,kL,pZ⟩:=hR1.mapo hg hρ
 have Nn:(getObj mb).run P cc.w=.ok (.map ents clk) cc.w:=by simp[getObj,Sem.run,Bv]
 refine wpList_step fun K hK=>?_
 rw[if_pos (iH g2 hE1 rfl)]
 have hexR:(execOp a1.eval oR).run P cc.w=.ok (.value (.pointer (some ⟨cc.w.heap.size,0,none⟩))) {cc.w with heap:=cc.w.heap.push (.mapIter (some mb) clk #[] clk)}:=by
  simp[execOp,hoR,Instr.range,run_underlying huR,dX,Nn]
 unfold Oper.wp
 rw[hexR]
 refine hK _ _ (wpList_nil ?_)
 have hS:=hR1.shut hg hρ
 have hmlt:=dQ hg
 generalize vP:({cc with E:=fun b=>cc.E b∨b=mb}:Ctx)=c1 at hS
 have hc1w:c1.w=cc.w:=by rw[←vP]
 have hbi:∀b,c1.E b→b≠cc.w.heap.size:=fun b hb=>by have:=(hS.pend b hb).1;rw[hc1w]at this;omega
 obtain⟨hA,hleA⟩:=hS.early (w':={cc.w with heap:=cc.w.heap.push (.mapIter (some mb) clk #[] clk)}) (by simp[hc1w]) (fun k hk=>by
  rw[hc1w]at hk ⊢
  simp only[Array.getElem?_push]
  rw[if_neg (by omega)]) (by rw[hc1w];exact .push rfl trivial rfl rfl)
 obtain⟨hB,hleB⟩:=hA.nameE cc.w.heap.size
 have rB:=hleA.trans hleB
 have GH:(h1.set m .dead).n=h1.n:=rfl
 generalize hC3:(⟨{cc.w with heap:=cc.w.heap.push (.mapIter (some mb) clk #[] clk)},fun i=>if i=(h1.set m .dead).n then some (cc.w.heap.size,0)else c1.ρ i,fun b=>c1.O b∨b=c1.w.heap.size,c1.X,fun b=>c1.E b∨b=c1.w.heap.size,c1.τ⟩:Ctx)=C3 at hB rB
 have hC3w:C3.w={cc.w with heap:=cc.w.heap.push (.mapIter (some mb) clk #[] clk)}:=by rw[←hC3]
 have hC3E:C3.E=fun b=>c1.E b∨b=cc.w.heap.size:=by rw[←hC3,←hc1w]
 have hC3nm:C3.ρ h1.n=some (cc.w.heap.size,0):=by rw[←hC3];exact if_pos rfl
 have I:qC c1 mb cc.w.heap.size clk h1.n (sX h1 m) C3 #[]:=by
  refine⟨hB,⟨rB.rho,rB.size,rB.frame,rB.own,rB.shape,rB.X,fun b hb he=>⟨he,(rB.pend b hb (by rw[hC3E];exact .inl he)).2⟩,rB.quiet,rB.tok⟩,hC3E,by rw[←hC3],?_,hC3nm⟩
  rw[hC3w];simp
 have hE3:cQ C3 (env1.set it (.ptr h1.n 0 0 0)) (a1.put oR.dst (.pointer (some ⟨cc.w.heap.size,0,none⟩))):=by
  have h0:cQ C3 env1 a1:=⟨hE1.size,hE1.defers,fun i hi=>by
   have:=(hE1.val i hi).setE (fun b=>cc.E b∨b=mb)
   rw[vP]at this
   exact this.mono rB⟩
  have hp:VR C3 (.ptr h1.n 0 0 0) (.pointer (some ⟨cc.w.heap.size,0,none⟩)):=by
   have:=VR.ptr (sz:=0) (idx:=0) (off:=0) hC3nm
   simpa using this
  rw[←g3]
  exact h0.put hp (some it)
 rw[show({cc.w with heap:=cc.w.heap.push (.mapIter (some mb) clk #[] clk)}:World)=C3.w from hC3w.symm]
 show(Code.block X _).wp P Q _ C3.w
 refine wp_block (wp_loop_rounds (ents.size+1) ?_)
 have cM:es'.length=ents.size:=by simpa using kL.1
 have hmap:((List.range ents.size).map fun j=>es'.getD j (.unk,.unk))=es':=by
  apply List.ext_getElem
  ·simp[cM]
  ·intro i h1 h2;simp at h1;simp[h2]
 have hc1E:c1.E mb:=by rw[←vP];exact .inr rfl
 have hwi0:=hwi
 unfold qQ at hwi
 refine Qt (Fin:=fun e1 envx QY=>e1=e∧∃ e2 env2 h2,vH kl m es env1 h1 (.ok e1 envx QY)=.ok e2 env2 h2∧bA=env2∧Fv LQ h'.objs h2.objs=true) iO (fun h c env a e bA h' Q hr hR hE hQ=>hcode v bb h c env a e bA h' Q hv hr hR hE hQ) e2 e3 k1 N9 k2 LF k3 XH k4 kok dW hbi hc1E (ents:=ents) (by rw[hc1w];exact Bv) pZ (es':=es') ?_ ?_ ents.size (List.range ents.size) (by simp) List.nodup_range (fun j hj=>List.mem_range.1 hj) (sX h1 m) C3 _ _ #[] I hE3 (fun j hj=>by simp[hj]) ?_
 ·refine⟨kL.1,fun i e1 m1 h3 h4=>?_⟩
  have:=kL.2 i e1 m1 h3 h4
  have q1:=this.1.setE (fun b=>cc.E b∨b=mb)
  have q2:=this.2.setE (fun b=>cc.E b∨b=mb)
  rw[vP]at q1 q2
  exact⟨q1,q2⟩
 ·rintro e1 envx QY C ax seen ⟨rfl,e2',env2,h2,RJ,W7,hz⟩ IC hEC
  obtain⟨_,_,hh',_⟩:∃ e3 env3 h3,vH kl m es env1 h1 (.ok e3 env3 h3)=.ok e1 bA h':=by
   cases GG:rounds call run it nx ok en X Y h1.n ops bb es (env1.set it (.ptr h1.n 0 0 0)) (sX h1 m)with
   | fail=>rw[GG]at hwi;cases hwi
   | ok e3 env3 h3=>rw[GG]at hwi;exact⟨e3,env3,h3,hwi⟩
  rename_i hcl'
  obtain⟨_,_,rfl,_,_,_⟩:=Ag hcl'
  have cW:=Yv hR1 hg hρ lW Bv pZ kL hE1 (by rw[vP];exact IC) hEC RJ W7 (by rfl) (by rfl) hz
  rw[←uV]at cW
  exact hQ _ _ (cW.trans (by rw[uV];exact hle1))
 ·intro l hl
  rw[hmap]at hl
  have hp:=oH l (DB (hl.trans lW.symm))
  unfold qQ at hp
  cases GG:rounds call run it nx ok en X Y h1.n ops bb l (env1.set it (.ptr h1.n 0 0 0)) (sX h1 m)with
  | fail=>rw[GG]at hp;simp[vH,ET]at hp
  | ok e3 env3 h3 =>
   rw[GG]at hp
   cases RJ:vH kl m es env1 h1 (.ok e3 env3 h3)with
   | fail=>rw[RJ]at hp;simp[ET]at hp
   | ok e4 env4 h4 =>
    rw[RJ]at hp
    simp only[ET,Bool.and_eq_true,decide_eq_true_eq]at hp
    obtain⟨q1,_⟩:=Ag RJ
    exact⟨e3,env3,h3,rfl,by rw[hp.1,q1],e4,env4,h4,RJ,qI _ _ hp.2.1,hp.2.2⟩
theorem Mj(G:Mm P D):∀n m,m≤n→yE P D m∧Oc P D m:=by
 intro n
 induction n with
 | zero =>
  intro m hm
  rw[Nat.le_zero.1 hm]
  refine⟨fun code dc h c env a e bA h' Q _ he=>?_,fun code dc h c env a e bA h' Q _ he=>?_⟩
  ·cases he
  ·cases he
 | succ n ih =>
  intro m hm
  rcases Nat.lt_or_ge m (n+1)with aZ|Zu
  ·exact ih m (by omega)
  rw[Nat.le_antisymm hm Zu]
  obtain⟨iC,iL⟩:=ih n (Nat.le_refl _)
  have iO:=wT G iC
  have Jf:=sI (run:=dT D n) G.keep (Jz G.keep n)
  refine⟨?_,?_⟩
  ·intro code dc h c env a e bA h' Q uV he hR hE hQ
   unfold bW at uV
   split at uV
   ·cases uV
    simp only[dT]at he
    cases he
    exact wp_skip (hQ _ _ ⟨c.ρ,by rw[hR.same];exact⟨hR,.refl c,hE⟩⟩)
   ·rename_i x y
    split at uV
    ·rename_i _ _ dx dy hx hy
     cases uV
     cases hw:vV dx dy with
     | some r =>
      obtain⟨ds,dl,x0,it,nx,ok,en,X,Y,kl,ops,bb,d1,d2,d3,_,_,_,_,_,_,_,_,_,hr⟩:=zF hw
      unfold Iu at he
      rw[hw,hr]at he
      simp only[Option.getD_some,dT]at he
      cases n with
      | zero=>simp only[dT]at he;cases he
      | succ k =>
       simp only[dT]at he
       split at he
       ·rename_i env1 h1 h2
        split at h2
        ·rename_i h3
         cases h2
         obtain⟨jC,jL⟩:=ih k (Nat.le_succ _)
         exact A4 (r1:=dx) (wT G jC) jC hx hy hw hr h3 he hR hE hQ
        ·cases h2
       ·rename_i dW
        split at he
        ·rename_i h3;exact absurd (by rw[h3]) (dW _ _)
        ·cases he
     | none =>
     unfold Iu at he
     rw[hw]at he
     simp only[Option.getD_none,dT]at he
     refine wp_seq ?_
     split at he
     ·rename_i env1 h1 h2
      refine iC x dx h c env a .normal env1 h1 _ hx h2 hR hE fun a' w' cW=>?_
      obtain⟨ρ',k1,k2,k3⟩:=cW
      show y.wp P Q a' w'
      exact iC y dy h1 (c.next w' ρ' h1) env1 a' e bA h' Q hy he k1 k3 fun a2 w2 Jb=>hQ _ _ (Jb.trans k2)
     ·rename_i dW
      refine iC x dx h c env a e bA h' _ hx he hR hE fun a' w' cW=>?_
      have:=hQ a' w' cW
      cases e with
      | normal=>exact absurd he (dW bA h')
      | exit id=>exact this
      | ret=>exact this
    ·cases uV
   ·rename_i cd x y
    split at uV
    ·rename_i _ _ _ cd' dx dy h1 h2 h3
     cases uV
     simp only[dT]at he
     have hv:=bM h1 hE
     split at he
     ·rename_i LG
      rw[LG]at hv
      exact wp_cond_true hv.bool_inv (iC x dx h c env a e bA h' Q h2 he hR hE hQ)
     ·rename_i LG
      rw[LG]at hv
      exact wp_cond_false hv.bool_inv (iC y dy h c env a e bA h' Q h3 he hR hE hQ)
     ·cases he
    ·cases uV
   ·rename_i id b
    split at uV
    ·rename_i _ db hb
     cases uV
     simp only[dT]at he
     refine wp_block ?_
     split at he
     ·rename_i id' env1 h1 h2
      split at he
      ·rename_i eO
       cases he
       exact iC b db h c env a (.exit id') _ _ _ hb h2 hR hE fun a' w' cW=>by
        show Exit.inBlock id Q (.exit id') a' w'
        simp only[Exit.inBlock,eO,if_true]
        exact hQ a' w' cW
      ·rename_i eO
       cases he
       exact iC b db h c env a (.exit id') _ _ _ hb h2 hR hE fun a' w' cW=>by
        show Exit.inBlock id Q (.exit id') a' w'
        simp only[Exit.inBlock,eO,if_false]
        exact hQ a' w' cW
     ·rename_i dW
      refine iC b db h c env a e bA h' _ hb he hR hE fun a' w' cW=>?_
      have:=hQ a' w' cW
      cases e with
      | normal=>exact this
      | exit id'=>exact absurd he (dW id' bA h')
      | ret=>exact this
    ·cases uV
   ·rename_i b
    split at uV
    ·rename_i _ db hb
     cases uV
     refine wp_loop_rounds (n+1) ?_
     rw[rounds_succ]
     simp only[dT]at he
     split at he
     ·rename_i env1 h1 h2
      refine iC b db h c env a .normal env1 h1 _ hb h2 hR hE fun a' w' cW=>?_
      obtain⟨ρ',k1,k2,k3⟩:=cW
      show Code.rounds P b Q n a' w'
      exact iL b db h1 (c.next w' ρ' h1) env1 a' e bA h' Q hb he k1 k3 fun a2 w2 Jb=>hQ _ _ (Jb.trans k2)
     ·rename_i dW
      refine iC b db h c env a e bA h' _ hb he hR hE fun a' w' cW=>?_
      have:=hQ a' w' cW
      cases e with
      | normal=>exact absurd he (dW bA h')
      | exit id=>exact this
      | ret=>exact this
    ·cases uV
   ·cases uV
    simp only[dT]at he
    cases he
    exact wp_exit (hQ _ _ ⟨c.ρ,by rw[hR.same];exact⟨hR,.refl c,hE⟩⟩)
   ·cases uV
    simp only[dT]at he
    cases he
    exact wp_ret (hQ _ _ ⟨c.ρ,by rw[hR.same];exact⟨hR,.refl c,hE⟩⟩)
   ·rename_i id ops draw
    cases draw with
    | false =>
     simp only[gJ,Bool.false_eq_true,if_false]at uV
     split at uV
     ·rename_i ds Er
      cases uV
      simp only[dT]at he
      split at he
      ·rename_i env1 h1 jN
       cases he
       exact wp_region_list (by
        have:=xS iO (ops:=ops.toList) (Q:=Q) ops.toList ds h c env a _ _ Er jN hR hE hQ
        simpa using this)
      ·cases he
     ·cases uV
    | true =>
     have hdc:∃ ds,dc=.draw ds:=by
      obtain⟨cA,bs,e,_⟩:=fJ uV
      exact⟨_,e⟩
     obtain⟨ds,rfl⟩:=hdc
     simp only[dT]at he
     split at he
     ·rename_i env1 h1 jN
      cases he
      exact P8 G.mixed uV Jf iO jN hR hE hQ
     ·cases he
   ·cases uV
  ·intro code dc h c env a e bA h' Q uV he hR hE hQ
   rw[rounds_succ]
   simp only[dT]at he
   split at he
   ·rename_i env1 h1 h2
    refine iC code dc h c env a .normal env1 h1 _ uV h2 hR hE fun a' w' cW=>?_
    obtain⟨ρ',k1,k2,k3⟩:=cW
    show Code.rounds P code Q n a' w'
    exact iL code dc h1 (c.next w' ρ' h1) env1 a' e bA h' Q uV he k1 k3 fun a2 w2 Jb=>hQ _ _ (Jb.trans k2)
   ·rename_i dW
    refine iC code dc h c env a e bA h' _ uV he hR hE fun a' w' cW=>?_
    have:=hQ a' w' cW
    cases e with
    | normal=>exact absurd he (dW bA h')
    | exit id=>exact this
    | ret=>exact this
theorem Kj(G:Mm P D)(n:Nat):yE P D n∧Oc P D n:=Mj G n n (Nat.le_refl _)
theorem Kl(G:Mm P D)(n:Nat):kB P (Yz D n):=wT G (Kj G n).1
end
end Go.Dm
/-
Part 28 of "Dm": a call of a function dE arguments from outside; the table of the functions.
-/
namespace Go.Dm
open Go.RowKit
def lQ:aA:={objs:=[],n:=0,lim:=0}
def Sm(w:World)(τ:Nat→Value:=fun _=>undef):Ctx:=⟨w,fun _=>none,fun _=>False,fun _=>False,fun _=>False,τ⟩
theorem Dj(id:Nat):lQ.get id=none:=by simp[aA.get,lQ]
def Ml(w:World):Prop:=∀b v,Sd=some (b,v)→b<w.heap.size∧w.cell? ⟨b,0,none⟩=some v
theorem e6(w:World)(hg:Ml w)(τ:Nat→Value:=fun _=>undef):Rel lQ (Sm w τ) :=
 ⟨rfl,Nat.le_refl _,fun id h=>absurd rfl h,fun id o h=>(by rw[Dj]at h;cases h),fun i j oi oj b x y hi=>(by rw[Dj]at hi;cases hi),fun b=>⟨fun h=>h.elim,fun h=>by
  rcases h with⟨id,o,x,hg,_⟩|h
  ·rw[Dj]at hg;cases hg
  ·exact h.elim⟩,fun b h=>h.elim,fun b h=>h.elim,fun b h=>h.elim,fun b v hv=>⟨(hg b v hv).1,fun h=>h,(hg b v hv).2⟩⟩
def NG(W w':World):Prop:=W.keptBut w' (fun _=>False)∧(∀a,a.block<W.heap.size→w'.frozen? a=W.frozen? a)∧W.heap.size≤w'.heap.size
theorem NG.frame{W w':World}(h:NG W w')(may:MemPlace→Prop):W.keptBut w' may:=World.keptBut_mono (fun _ f=>f.elim) h.1
theorem Xt{w:World}{τ:Nat→Value}{c:Ctx}(h:bS (Sm w τ) c):NG w c.w:=by
 refine⟨⟨h.quiet.os,h.quiet.out,fun i hi=>?_⟩,h.quiet.froz,h.size⟩
 have:=(World.keptBut_refl w (fun _=>False)).2.2 i hi
 rw[h.frame i hi (fun h=>h)]
 exact this
open Go.ChangeShapes Go.WideShapes in
theorem CY{H:Type}{enc:TypeId×Value→H}{P:Program}{f:Func}{s:ChangeSpec}{qB fresh handsOn again:Bool}{W W':World}{args:Array Value}{v:Value}{ds gs:List (DataW H)}{before pa pv:List MemPlace}
  (hW:DataW.Whole enc P f.params.toList s.vars qB W args.toList ds gs before)
  (hres:∀(b:Nat) (sp:Nat→Bool) (hd:Bool),DataW.TrodAll enc P W' b sp hd f.resultTypes.toList (v.resultList f.resultTypes.size) (s.fn H (ds++gs)).results [])
  (hargs:∀sp:Nat→Bool,(∀p∈before,sp p.block=true)→DataW.TrodAll enc P W' 0 sp true f.params.toList args.toList (s.fn H (ds++gs)).args pa)
  (hvars:∀sp:Nat→Bool,(∀p∈before,sp p.block=true)→DataW.TrodVars enc P W' sp s.vars (s.fn H (ds++gs)).vars pv)
  (EB:before=pa++pv) (hk:W.keptBut W' (·∈before)) (hfz:∀a,a.block<W.heap.size→W'.frozen? a=W.frozen? a)
  (hok:∀(j:Nat) (t:TypeId) (r:Value),f.resultTypes[j]?=some t→(v.resultList f.resultTypes.size)[j]?=some r→Value.okWide P W' .any 0 t r) :
  s.post enc P f qB fresh handsOn again W args v W':=by
 have hold:∀p∈before,(fun b=>decide (b<W.heap.size)) p.block=true:=fun p hp=>by simpa using hW.lt p hp
 have aZ:=hW.lt
 refine⟨ds,gs,before,[],pa,pv,hW,hres _ _ _,hargs _ hold,hvars _ hold,World.keptBut_mono (fun p hp=>⟨hp,?_⟩) hk,fun _=>?_⟩
 ·rw[EB,List.mem_append]at hp
  exact Or.inr hp
 ·obtain⟨_,_,_,_,_,hz,hn⟩:=hW
  refine⟨hok,_,_,([]++pa)++pv,⟨[]++pa,pv,trodAll_append (hargs _ (fun _ _=>rfl)) (hres _ _ _),hvars _ (fun _ _=>rfl),rfl,?_,?_⟩,?_⟩
  ·intro b off hp
   rw[hfz _ (aZ (.cell b off) (by rw[EB];simpa using hp))]
   exact hz b off (by rw[EB];simpa using hp)
  ·intro ha
   have:=hn ha
   rw[EB]at this
   simpa using this
  ·intro p hp _
   rw[EB]
   simpa using hp
def Fc(P:Program)(tab:List (Nat×aS)):Prop:=∀x,x∈tab→∃ fn,P.funcs[x.1]?=some fn∧aH P fn x.2.mode=some x.2
theorem Fc.nil{P:Program}:Fc P []:=fun x hx=>by cases hx
theorem Fc.cons{P:Program}{f:Nat}{df:aS}{fn:Func}{tab:List (Nat×aS)}(h1:P.funcs[f]?=some fn)(h2:aH P fn df.mode=some df)(h:Fc P tab):Fc P ((f,df)::tab):=fun x hx=>by
 rcases List.mem_cons.1 hx with rfl|hx
 ·exact⟨fn,h1,h2⟩
 ·exact h x hx
def V5:List (Nat×aS)→Nat→Option aS
 | [],_=>none
 | (k,d)::r,f=>if Nat.beq k f then some d else V5 r f
theorem DR{tab:List (Nat×aS)}{f:Nat}{d:aS}(h:V5 tab f=some d):(f,d)∈tab:=by
 induction tab with
 | nil=>cases h
 | cons x r ih =>
  obtain⟨k,d'⟩:=x
  simp only[V5]at h
  split at h
  ·rename_i he
   cases h
   rw[Nat.eq_of_beq_eq_true he]
   exact List.mem_cons_self ..
  ·exact List.mem_cons_of_mem _ (ih h)
end Go.Dm
/-
Part 30 of "Dm": what stands in the place of functions dE a body; tables with hooks.
-/
namespace Go.Dm
def oT(P:Program)(f:Nat)(hk:rT):Prop :=
 (∀args h d h' c vals,hk h args=some (d,h')→Rel h c→VRs c args vals→Kv P f vals.toArray h c h' d)∧∀h args v h',h.lim≤h.n→hk h args=some (v,h')→eS h h'
def uK:rT:=fun h args =>
 match args with
 | [.sl i1 s1 _ _,.sl i2 s2 _ _] =>
  match h.get i1,h.get i2 with
  | some (.arr _ z1 _ _),some (.arr _ z2 xs _)=>if i1≠i2∧s1=z1∧s2=z2∧xs.length≠0 then some (.bool false,h)else none
  | _,_=>none
 | _=>none
theorem SY {P : Program} {f : Nat} {fn : Func} {tS tR e : TypeId} (hf : P.funcs[f]? = some fn) (Bp : (fn.name == "runtime.NumGoroutine") = false) (hb : fn.body.isNone = true) (hn : Extern.findNext fn = none)
  (he:Extern.find fn=some (Extern.SlicesOverlaps.overlaps #[tS,tS] #[tR])) (ht:P.underlying tS=some (.slice e)) (hi:(P.info? e).isSome=true):oT P f uK:=by
 obtain⟨i,hi⟩:=Option.isSome_iff_exists.1 hi
 refine⟨fun args h d h' c vals hs hR hv=>?_,fun h args v h' _ hs=>?_⟩
 ·unfold uK at hs
  split at hs
  ·rename_i i1 s1 o1 l1 i2 s2 o2 l2
   split at hs
   ·rename_i e1 z1 x1 c1 e2 z2 x2 c2 g1 g2
    split at hs
    ·rename_i cD
     obtain⟨dW,hs1,hs2,hx⟩:=cD
     cases hs
     have hl:=hv.1
     obtain⟨v1,v2,rfl⟩:∃ v1 v2,vals=[v1,v2]:=by
      cases vals with
      | nil=>simp at hl
      | cons a r=>cases r with
       | nil=>simp at hl
       | cons b r=>cases r with
        | nil=>exact⟨a,b,rfl⟩
        | cons c r=>simp at hl
     have w1:VR c (.sl i1 s1 o1 l1) v1:=hv.2 0 (by simp) (by simp)
     have w2:VR c (.sl i2 s2 o2 l2) v2:=hv.2 1 (by simp) (by simp)
     obtain⟨b1,base1,cap1,co1,n1,ty1,e1',r1,_⟩:=w1.sl_inv
     obtain⟨b2,base2,cap2,co2,n2,ty2,e2',r2,_⟩:=w2.sl_inv
     obtain⟨cur1,m1,p1,p2,p3,p4,p5,p6⟩:=hR.arr g1 r1
     obtain⟨cur2,m2,q1,q2,q3,q4,q5,q6⟩:=hR.arr g2 r2
     have hbne:b1≠b2:=fun eb=>dW (hR.inj i1 i2 _ _ b1 base1 base2 g1 g2 rfl rfl r1 (eb ▸ r2))
     have rQ:∀a:Addr,a.block=b1→c.w.frozen? a=false:=fun a ha=>pK (ob:=.cells cur1 e1 (0,0)) (by rw[ha];exact p1) rfl
     refine .inl ⟨.bool false,c.w,?_,lS.pure hR (.bool false)⟩
     rw[run_callFunc_extern hf Bp hb hn he]
     have jN:=Lib.run_overlaps_apart (P:=P) c.w tS tR e ht i.size (fun w=>by simp[sizeOf,typeInfo,hi]) ⟨b1,co1,none⟩ ⟨b2,co2,none⟩ l1 cap1 l2 cap2 hbne e1 e2 cur1.size cur2.size (eF p1) (eF q1)
      (by
       have:0<m2*z2:=Nat.mul_pos (by omega) q2
       omega) (rQ _ rfl) (rQ _ rfl)
     rw[e1',e2',jN]
     rfl
    ·cases hs
   ·cases hs
  ·cases hs
 ·unfold uK at hs
  split at hs
  ·split at hs
   ·split at hs
    ·cases hs;exact .refl _
    ·cases hs
   ·cases hs
  ·cases hs
def sK(P:Program)(hooks:List (Nat×rT)):Prop:=∀x,x∈hooks→oT P x.1 x.2
theorem sK.nil{P:Program}:sK P []:=fun x hx=>by cases hx
theorem sK.cons{P:Program}{f:Nat}{hk:rT}{hooks:List (Nat×rT)}(h1:oT P f hk)(h:sK P hooks):sK P ((f,hk)::hooks):=fun x hx=>by
 rcases List.mem_cons.1 hx with rfl|hx
 ·exact h1
 ·exact h x hx
def V6:List (Nat×rT)→Nat→Option rT
 | [],_=>none
 | (k,d)::r,f=>if Nat.beq k f then some d else V6 r f
theorem Nj{hooks:List (Nat×rT)}{f:Nat}{d:rT}(h:V6 hooks f=some d):(f,d)∈hooks:=by
 induction hooks with
 | nil=>cases h
 | cons x r ih =>
  obtain⟨k,d'⟩:=x
  simp only[V6]at h
  split at h
  ·rename_i he
   cases h
   rw[Nat.eq_of_beq_eq_true he]
   exact List.mem_cons_self ..
  ·exact List.mem_cons_of_mem _ (ih h)
def Rv(tab:List (Nat×aS))(hooks:List (Nat×rT)):cL:={fn:=V5 tab,hook:=V6 hooks}
theorem Bo{P:Program}{tab:List (Nat×aS)}{hooks:List (Nat×rT)}(hm:P.follows .mixedOrders=true)(ht:Fc P tab)(hh:sK P hooks):Mm P (Rv tab hooks) where
 mixed:=hm
 comp:=fun f df h=>ht (f,df) (DR h)
 hooks:=fun f hk h=>(hh (f,hk) (Nj h)).1
 keep:=fun f hk h=>(hh (f,hk) (Nj h)).2
end Go.Dm
/-
Part 36 of "Dm": what stands in the place of the comparing of two texts (a function dE a body).
-/
namespace Go.Dm
def wW:rT:=fun h args =>
 match args with
 | [.str a,.str b]=>some (.int .i64 (Go.Lib.compareBytes a b),h)
 | _=>none
theorem XY {P : Program} {f : Nat} {fn : Func} (hf : P.funcs[f]? = some fn) (Bp : (fn.name == "runtime.NumGoroutine") = false) (hb : fn.body.isNone = true) (hn : Extern.findNext fn = none)
  (he:Extern.find fn=some Extern.BytealgCompare.compare):oT P f wW:=by
 refine⟨fun args h d h' c vals hs hR hv=>?_,fun h args v h' _ hs=>?_⟩
 ·unfold wW at hs
  split at hs
  ·rename_i a b
   cases hs
   have hl:=hv.1
   obtain⟨v1,v2,rfl⟩:∃ v1 v2,vals=[v1,v2]:=by
    cases vals with
    | nil=>simp at hl
    | cons a r=>cases r with
     | nil=>simp at hl
     | cons b r=>cases r with
      | nil=>exact⟨a,b,rfl⟩
      | cons c r=>simp at hl
   have w1:VR c (.str a) v1:=hv.2 0 (by simp) (by simp)
   have w2:VR c (.str b) v2:=hv.2 1 (by simp) (by simp)
   have e1:=w1.str_inv
   have e2:=w2.str_inv
   subst e1
   subst e2
   refine .inl ⟨.int .i64 (Go.Lib.compareBytes a b),c.w,?_,lS.pure hR (.int .i64 _)⟩
   rw[run_callFunc_extern hf Bp hb hn he]
   have jN:=Lib.run_compareString (P:=P) ⟨a.toArray⟩ ⟨b.toArray⟩ c.w
   simp only at jN
   rw[jN]
   rfl
  ·cases hs
 ·unfold wW at hs
  split at hs
  ·cases hs;exact .refl _
  ·cases hs
end Go.Dm
/-
Part 32 of "Dm": what stands in the place of slices.Clone: whether a slice dE elements is nil is not asked.
-/
namespace Go.Dm
def eK(ety sz bytes:Nat):rT:=fun h args =>
 match args with
 | [v]=>match elems h sz v with
  | some ys =>
   if ys.isEmpty then some (.nsl,h.push .dead)
   else if ys.length*bytes≤140737488355328∧ys.length≤9223372036854775807 then some (.sl (h.n+1) sz 0 ys.length,(h.push (.arr ety sz [] (some 0))).push (.arr ety sz ys none))
   else none
  | none=>none
 | _=>none
def j8:cL:={fn:=fun _=>none,hook:=fun _=>none}
theorem K6{P:Program}(hm:P.follows .mixedOrders=true):Mm P j8 where
 mixed:=hm
 comp:=fun f df h=>by cases h
 hooks:=fun f hk h=>by cases h
 keep:=fun f hk h=>by cases h
theorem P0{h:aA}{o:DO}{sz:Nat}{v:DV}{ys:List DV}(he:elems h sz v=some ys):elems (h.push o) sz v=some ys:=by
 unfold elems at he ⊢
 split at he
 ·exact he
 ·exact he
 ·split at he
  ·rename_i hg
   rw[cP (dQ hg),hg]
   exact he
  ·cases he
 ·cases he
theorem Rel.pushDead{h:aA}{c:Ctx}(hR:Rel h c):∃ ρ',Rel (h.push .dead) (c.next c.w ρ' (h.push .dead))∧bS c (c.next c.w ρ' (h.push .dead)):=by
 obtain⟨k1,k2⟩:=hR.push .dead c.w c.w.heap.size 0 (Nat.le_refl _) (Nat.le_refl _) (fun _ _=>rfl) (.refl _) (fun _=>trivial)
 exact⟨_,k1,k2⟩
theorem CV{h:aA}{o:DO}:(h.push o).set h.n .dead=h.push .dead:=by
 simp[aA.push,aA.set]
theorem Qp{P:Program}{t e:TypeId}(hu:P.underlying t=some (.slice e))(ad:Option Addr)(n cap:Nat)(k:Nat)(w:World) :
  (Op.equalIn (k+1) t (.slice ad n cap) (.slice none 0 0)).run P w=.ok ad.isNone w:=by
 cases ad<;>simp[Op.equalIn,run_underlying hu]
theorem Vg{P:Program}{t e:TypeId}(hu:P.underlying t=some (.slice e))(ad:Option Addr)(n cap:Nat)(w:World) :
  (Op.equal t (.slice ad n cap) (.slice none 0 0)).run P w=.ok ad.isNone w:=Qp hu ad n cap 9999 w
structure kA(P:Program)(fn:Func)(ety sz bytes:Nat)(z:DV) where
 (r0 r1 r2 r3:Nat) (os0 os2 os3:Array Oper) (o2 o3:Oper) (t u:TypeId) (e:TypeId)
 body:fn.body=some (.seq (.region r0 os0 false) (.seq (.seq (.region r1 #[o2,o3] false) (.cond (.tmp 4) (.seq (.region r2 os2 false) .ret) .skip)) (.seq (.region r3 os3 false) .ret)))
 hA:bW P (.region r0 os0 false)=some (.region [⟨some 2,.move (.c .nsl),none,.write,0,false⟩])
 h2:dR P [o2,o3] .write 0 o2=some ⟨some 3,.move (.t 0),none,.write,0,false⟩
 h3:o3.op=.binOp .eql t (.tmp 3) (.const (.slice none 0 0)) u
 h3d:o3.dst=some 4
 h3g:o3.guard.isNone=true
 hu:P.underlying t=some (.slice e)
 hC:bW P (.seq (.region r2 os2 false) .ret)=some (.seq (.region [⟨some 2,.move (.c .nsl),none,.write,0,false⟩]) .ret)
 hD:bW P (.seq (.region r3 os3 false) .ret)=some (.seq (.region [⟨some 5,.buildSlice ety sz z 0 [],none,.write,0,false⟩,⟨some 6,.move (.t 0),none,.write,0,false⟩,⟨some 7,.append ety sz bytes (.t 5) (.t 6),none,.write,0,false⟩,⟨some 2,.move (.t 7),none,.write,0,false⟩]) .ret)
 nt:fn.ntmps=8
 rs:fn.results=#[.tmp 2]
theorem nJ {P : Program} {f : Nat} {fn : Func} {ety sz bytes : Nat} {z : DV} (hm : P.follows .mixedOrders = true) (hf : P.funcs[f]? = some fn) (Bp : (fn.name == "runtime.NumGoroutine") = false) (T : kA P fn ety sz bytes z) :
  oT P f (eK ety sz bytes):=by
 refine⟨fun args h d h' c vals hs hR hv=>?_,fun h args v h' hl hs=>?_⟩
 ·unfold eK at hs
  split at hs
  ·rename_i x
   split at hs
   ·rename_i ys An
    obtain⟨v,rfl⟩:∃ v,vals=[v]:=by
     have:=hv.1
     cases vals with
     | nil=>simp at this
     | cons a r=>cases r with
      | nil=>exact⟨a,rfl⟩
      | cons b r=>simp at this
    have dX:VR c x v:=hv.2 0 (by simp) (by simp)
    obtain⟨ad,cap,news,e1,e2,e3,e4,e5⟩:=mM hR An dX
    have Gd:=(Kj (K6 hm) 3).1
    have hname' : fn.name ≠ "runtime.NumGoroutine" := by simpa using Bp
    refine .inr ⟨f,#[v],lD hf T.body hname' _ _,?_⟩
    refine calls_of_wp hf T.body ?_
    have hE0:cQ c [x,bR,bR,bR,bR,bR,bR,bR] {tmps:=#[v]++Array.replicate (fn.ntmps-1) Go.undef,defers:=[]}:=by
     have:=Nr hv 8
     rw[T.nt]
     exact this
    have hend:∀(bA:Env) (h1:aA) (a':Act) (w':World),St c h1 bA a' w'→∀d1,bA[2]?=some d1→(∀ρ' u,Rel h1 (c.next w' ρ' h1)→bS c (c.next w' ρ' h1)→VR (c.next w' ρ' h1) d1 u→lS h c h' w' d u) →
      (a'.defers=[]∧∃ u,(results fn a'.tmps).run P w'=.ok u w'∧tU h c h' d (.returned u) w'):=by
     intro bA h1 a' w' cW d1 N9 Bn
     obtain⟨ρ',k1,k2,k3⟩:=cW
     obtain⟨aZ,hd1'⟩:=List.getElem?_eq_some_iff.1 N9
     have hvr:=k3.val 2 aZ
     rw[hd1']at hvr
     refine⟨k3.defers,a'.tmps.getD 2 Go.undef,?_,_,rfl,Bn ρ' _ k1 k2 hvr⟩
     rw[Ic,T.rs]
     simp[wD]
    refine wp_seq ?_
    refine Gd _ _ h c _ _ .normal ([x,bR,.nsl,bR,bR,bR,bR,bR]) h _ T.hA rfl hR hE0 fun a1 w1 hst1=>?_
    obtain⟨ρ1,k1,k2,k3⟩:=hst1
    show Code.wp P _ _ a1 w1
    refine wp_seq ?_
    refine wp_seq ?_
    refine wp_region_list ?_
    refine wpList_step fun K hK=>?_
    obtain⟨c1,c2,c3,_,_⟩:=jP T.h2
    have ks1:Rel h (c.next w1 ρ1 h):=k1
    rw[if_pos (by
     have:=iH (ops:=[T.o2,T.o3]) (c:=c.next w1 ρ1 h) (b:=true) c2 k3 rfl
     exact this)]
    refine tA (P:=P) (call:=fun _ _ _=>none) (fun f args h d h' c vals hc=>by cases hc) c1 ks1 k3 (r:=x) (h':=h) (by rfl) K _ fun u2 w2 NM=>?_
    obtain⟨ρ2,q1,q2,q3⟩:=NM
    rw[Dd]at q1 q2 q3
    refine hK _ _ ?_
    have c3':T.o2.dst=some 3:=c3.symm
    have hE2:cQ (c.next w2 ρ2 h) [x,bR,.nsl,x,bR,bR,bR,bR] (a1.put T.o2.dst u2):=by
     rw[c3']
     exact(k3.mono q2).put q3 (some 3)
    refine wpList_step fun K2 hK2=>?_
    rw[if_pos (by
     have:=T.h3g
     have:T.o3.guard=none:=by simpa using this
     simp[Region.wanted,this])]
    have hx3:(a1.put T.o2.dst u2).eval (.tmp 3)=u2:=by
     have eW:3<a1.tmps.size:=by rw[k3.size];simp
     rw[c3']
     simp[Act.eval,Act.put,eW]
    obtain⟨ad2,cap2,news2,f1,f2,f3,f4,f5⟩:=mM q1 An q3
    have GL:(execOp (a1.put T.o2.dst u2).eval T.o3).run P w2=.ok (.value (.bool ad2.isNone)) w2:=by
     have hc4:(a1.put T.o2.dst u2).eval (.const (.slice none 0 0))=.slice none 0 0:=rfl
     have hg:(eqGuard .eql T.t (.tmp 3) (.const (.slice none 0 0)) (.slice ad2 ys.length cap2) (.slice none 0 0)).run P w2=.ok () w2:=by
      unfold eqGuard;simp
     have hb:(binOp .eql T.t (.slice ad2 ys.length cap2) (.slice none 0 0)).run P w2=.ok (.bool ad2.isNone) w2:=by
      simp[binOp,Vg T.hu]
     simp[execOp,T.h3,hx3.trans f1,hc4,hg,hb]
    have ho3:SS P T.o3 (a1.put T.o2.dst u2) h (c.next w2 ρ2 h) h (.bool ad2.isNone):=by
     intro K Q hK
     unfold Oper.wp
     rw[show(c.next w2 ρ2 h).w=w2 from rfl,GL]
     exact hK _ w2 (lS.pure q1 (.bool _))
    refine ho3 K2 _ fun u3 w3 hp3=>?_
    obtain⟨ρ3,p1,p2,p3⟩:=hp3
    rw[Dd]at p1 p2 p3
    refine hK2 _ _ ?_
    have hE3:cQ (c.next w3 ρ3 h) [x,bR,.nsl,x,.bool ad2.isNone,bR,bR,bR] ((a1.put T.o2.dst u2).put T.o3.dst u3):=by
     rw[T.h3d]
     exact(hE2.mono p2).put p3 (some 4)
    have rB:bS c (c.next w3 ρ3 h):=(k2.trans q2).trans p2
    have ht4:((a1.put T.o2.dst u2).put T.o3.dst u3).eval (.tmp 4)=.bool ad2.isNone:=by
     have:=hE3.val 4 (by simp)
     have:=this.bool_inv
     simpa[Act.eval]using this
    refine wpList_nil ?_
    show Code.wp P _ _ _ w3
    cases had:ad2 with
    | none =>
     rw[had]at ht4
     refine wp_cond_true ht4 ?_
     refine Gd _ _ h (c.next w3 ρ3 h) _ _ .ret ([x,bR,.nsl,x,.bool ad2.isNone,bR,bR,bR]) h _ T.hC (by rfl) p1 hE3 fun a4 w4 M9=>?_
     have hst4':St c h [x,bR,.nsl,x,.bool ad2.isNone,bR,bR,bR] a4 w4:=M9.trans rB
     have hy:ys=[]:=f4 had
     rw[if_pos (by rw[hy];rfl)]at hs
     cases hs
     refine hend _ h a4 w4 hst4' .nsl rfl fun ρ' u g1 g2 g3=>?_
     obtain⟨ρ'',m1,m2⟩:=g1.pushDead
     exact⟨ρ'',m1,g2.trans m2,g3.mono m2⟩
    | some adr =>
     rw[had]at ht4
     refine wp_cond_false ht4 ?_
     refine wp_skip ?_
     show Code.wp P _ _ _ w3
     have mP:=P0 (o:=.arr ety sz [] (some 0)) An
     by_cases hy:ys.isEmpty=true
     ·rw[if_pos hy]at hs
      cases hs
      have hyn:ys=[]:=by simpa using hy
      refine Gd _ _ h (c.next w3 ρ3 h) _ _ .ret ([x,bR,.sl h.n sz 0 0,x,.bool ad2.isNone,.sl h.n sz 0 0,x,.sl h.n sz 0 0]) (h.push (.arr ety sz [] (some 0))) _ T.hD
       (by simp[dT,fL,iI,bO,aD,Opd.eval,Dm.put,dM,mP,aU,hyn]) p1 hE3 fun a4 w4 M9=>?_
      have hst4':=M9.trans rB
      refine hend _ _ a4 w4 hst4' (.sl h.n sz 0 0) rfl fun ρ' u g1 g2 g3=>?_
      obtain⟨b,base,gV,jA,nn,pJ,rfl,hρ,eV,Bq,Bs,Fp⟩:=g3.sl_inv
      have hgn:(h.push (.arr ety sz [] (some 0))).get h.n=some (.arr ety sz [] (some 0)):=iQ
      obtain⟨cur,m,g4,g5,g6,g7,g8,g9⟩:=g1.arr hgn hρ
      rw[eF g4]at eV
      cases eV
      have W4:m=0:=by have:=(g8 0 rfl).1;omega
      have jE:gV=0:=by
       have:gV*sz=0:=by rw[W4]at g6;omega
       rcases Nat.mul_eq_zero.1 this with e|e
       ·exact e
       ·omega
      subst jE
      obtain⟨m1,m2⟩:=g1.kill hgn
      rw[CV]at m1 m2
      exact⟨ρ',m1,g2.trans m2,.nsl _⟩
     ·rw[if_neg hy]at hs
      split at hs
      ·rename_i hb
       cases hs
       have hyp:¬ys.length=0:=fun e=>hy (by simpa using List.eq_nil_of_length_eq_zero e)
       have hyf:ys.isEmpty=false:=by simpa using hy
       have hgn:(h.push (.arr ety sz [] (some 0))).get h.n=some (.arr ety sz [] (some 0)):=iQ
       refine Gd _ _ h (c.next w3 ρ3 h) _ _ .ret ([x,bR,.sl (h.n+1) sz 0 ys.length,x,.bool ad2.isNone,.sl h.n sz 0 0,x,.sl (h.n+1) sz 0 ys.length]) ((h.push (.arr ety sz [] (some 0))).push (.arr ety sz ys none)) _ T.hD
        (by
         have hap:aU (h.push (.arr ety sz [] (some 0))) ety sz bytes (.sl h.n sz 0 0) ys=some (.sl (h.n+1) sz 0 ys.length,(h.push (.arr ety sz [] (some 0))).push (.arr ety sz ys none)):=by
          simp only[aU,hyf,Bool.false_eq_true,if_false,hgn]
          rw[if_pos (by simpa using hb),if_neg (show ¬0+(0+ys.length)≤([]:List DV).length from fun cT=>hyp (by have:([]:List DV).length=0:=rfl;omega))]
          simp[De]
         simp[dT,fL,iI,bO,aD,Opd.eval,Dm.put,dM,mP,hap]) p1 hE3 fun a4 w4 M9=>?_
       have hst4':=M9.trans rB
       refine hend _ _ a4 w4 hst4' (.sl (h.n+1) sz 0 ys.length) rfl fun ρ' u g1 g2 g3=>?_
       exact⟨ρ',g1,g2,g3⟩
      ·cases hs
   ·cases hs
  ·cases hs
 ·unfold eK at hs
  split at hs
  ·split at hs
   ·split at hs
    ·cases hs;exact .push hl _
    ·split at hs
     ·cases hs;exact(eS.push hl _).trans (.push (Nat.le_succ_of_le hl) _)
     ·cases hs
   ·cases hs
  ·cases hs
end Go.Dm
/-
Part 33 of "Dm": what stands in the place of errors.As, at the two targets that occur: an error number, a fault.
-/
namespace Go.Dm
open Go.RowKit
def zK:DV→Option DV
 | .ptr id sz idx off=>some (.ptr id sz idx (off+2))
 | .iptr l cs off=>some (.iptr l cs (off+2))
 | _=>none
def uZ(tE tF:TypeId)(h:aA):Nat→DV→Option (Option DV)
 | 0,_=>none
 | n+1,d=>match d with
  | .iface t x =>
   if t=tE then(match x with|.int .i64 k=>some (some (.int .i64 k))|_=>none)
   else if t=tF then
    match zK x with
    | some y=>match kH h none y with
     | some .nili=>some none
     | some d'=>uZ tE tF h n d'
     | none=>none
    | none=>none
   else none
  | _=>none
def asHook(tE tF tPE tPF:TypeId):rT:=fun h args =>
 match args with
 | [.nili,_]=>some (.bool false,h)
 | [.iface t x,.iface t' (.ptr id sz idx off)] =>
  if t'=tPE then
   match uZ tE tF h 50 (.iface t x)with
   | some (some k)=>match gY h 1 (.ptr id sz idx off) k with|some h'=>some (.bool true,h')|none=>none
   | some none=>if(gY h 1 (.ptr id sz idx off) (.int .i64 0)).isSome then some (.bool false,h)else none
   | none=>none
  else if t'=tPF then
   if t=tF then
    match zK x with
    | some _=>match gY h 1 (.ptr id sz idx off) x with|some h'=>some (.bool true,h')|none=>none
    | none=>none
   else if t=tE then(match x with|.int .i64 _=>some (.bool false,h)|_=>none)
   else none
  else none
 | _=>none
inductive rK(tE tF:TypeId)(w:World):Value→Option Int→Nat→Prop
 | hit (n:Int):rK tE tF w (.iface tE (.int .i64 n)) (some n) 0
 | step (b o:Nat) (v:Value) (r:Option Int) (n:Nat):w.cell? ⟨b,o+2,none⟩=some v→rK tE tF w v r n→rK tE tF w (.iface tF (.pointer (some ⟨b,o,none⟩))) r (n+1)
 | stop (b o:Nat):w.cell? ⟨b,o+2,none⟩=some .nilIface→rK tE tF w (.iface tF (.pointer (some ⟨b,o,none⟩))) none 0
structure NH(P:Program)(f:Nat)(fn:Func)(tE tF tPE tPF:TypeId):Prop where
 hf:P.funcs[f]?=some fn
 hb:fn.body.isSome=true
 hn : (fn.name == "runtime.NumGoroutine") = false
 nil:∀(t:Value) (w:World),Calls P f #[.nilIface,t] w fun e w'=>e=.returned (.bool false)∧w'=w
 num:∀(v:Value) (r:Option Int) (n:Nat) (p:Addr) (old:Value) (w:World),Ml w→rK tE tF w v r n→w.cell? p=some old→w.frozen? p=false →
  Calls P f #[v,.iface tPE (.pointer (some p))] w fun e w'=>e=.returned (.bool r.isSome)∧∃ w1,(Below w.heap.size w w1∧(∀a,w1.frozen? a=w.frozen? a)∧w.drawn≤w1.drawn)∧w'=match r with|some n=>w1.setCell p (.int .i64 n)|none=>w1
 hit:∀(q p:Addr) (old:Value) (w:World),Ml w→w.cell? p=some old→w.frozen? p=false →
  Calls P f #[.iface tF (.pointer (some q)),.iface tPF (.pointer (some p))] w fun e w'=>e=.returned (.bool true)∧∃ w1,(Below w.heap.size w w1∧(∀a,w1.frozen? a=w.frozen? a)∧w.drawn≤w1.drawn)∧w'=w1.setCell p (.pointer (some q))
 miss:∀(n:Int) (p:Addr) (w:World),Ml w →
  Calls P f #[.iface tE (.int .i64 n),.iface tPF (.pointer (some p))] w fun e w'=>e=.returned (.bool false)∧Below w.heap.size w w'∧(∀a,w'.frozen? a=w.frozen? a)∧w.drawn≤w'.drawn
theorem Rel.laid{h:aA}{c:Ctx}(hR:Rel h c):Ml c.w:=fun b v hv=>⟨(hR.glob b v hv).1,(hR.glob b v hv).2.2⟩
theorem Rel.grow{h:aA}{c:Ctx}(hR:Rel h c){w1:World}(hb:Below c.w.heap.size c.w w1)(hf:∀a,a.block<c.w.heap.size→w1.frozen? a=c.w.frozen? a)(hd:c.w.drawn≤w1.drawn):Rel h (c.next w1 c.ρ h)∧bS c (c.next w1 c.ρ h):=by
 have hO:∀b,(jT h c.ρ b∨c.E b)↔c.O b:=fun b=>(hR.own b).symm
 have sD:∀b,b<c.w.heap.size→w1.heap[b]?=c.w.heap[b]?:=hb.block
 have rB:bS c (c.next w1 c.ρ h) :=
  ⟨fun _ _ hp=>hp,hb.size,fun b Zv _=>sD b Zv,fun b Zv=>.inl ((hO b).1 Zv),fun b e n hs=>by
   have:=Hs hs
   simp only[World.shape?,Ctx.next]at hs ⊢
   rw[sD b this];exact hs,fun _ hx=>hx,fun b Zv hE=>⟨hE,sD b Zv⟩,⟨hb.os,hb.output,hb.tape,hd,hb.size,hf⟩,rfl⟩
 exact⟨⟨hR.len,hR.lim,hR.dom,fun id o hg=>(hR.obj id o hg).mono rB (fun ha b x hr=>sD b (hR.block_lt hg ha hr)),hR.inj,fun _=>Iff.rfl,fun b Zv=>hR.notX b ((hO b).1 Zv),fun b Zv=>Nat.lt_of_lt_of_le (hR.old b Zv) hb.size,
  fun b Zv=>⟨Nat.lt_of_lt_of_le (hR.pend b Zv).1 hb.size,(hR.pend b Zv).2⟩,hR.glob.mono rB⟩,rB⟩
theorem Ay{c:Ctx}{x y:DV}{v:Value}(hs:zK x=some y)(hv:VR c x v):∃ b o,v=.pointer (some ⟨b,o,none⟩)∧VR c y (.pointer (some ⟨b,o+2,none⟩)):=by
 unfold zK at hs
 split at hs
 ·cases hs
  obtain⟨b,base,rfl,hρ⟩:=hv.ptr_inv
  exact⟨b,_,rfl,.ptr hρ⟩
 ·cases hs
  obtain⟨b,o,vals,rfl,hb,hO,hX,hc,xZ⟩:=hv.iptr_inv
  exact⟨b,_,rfl,.iptr vals hb hO hX hc xZ⟩
 ·cases hs
theorem Nk{h:aA}{c:Ctx}(hR:Rel h c){y d:DV}{b o:Nat}(hy:VR c y (.pointer (some ⟨b,o,none⟩)))(hl:kH h none y=some d):∃ u,c.w.cell? ⟨b,o,none⟩=some u∧VR c d u:=by
 obtain⟨b',o',off,cs,e,hp,hc⟩:=zV hR hy hl
 cases e
 simp only[dG]at hp
 obtain⟨hj,rfl⟩:=List.getElem?_eq_some_iff.1 hp
 obtain⟨u,h1,_,h3⟩:=hc off hj
 exact⟨u,h1,h3⟩
theorem yX{tE tF:TypeId}{h:aA}{c:Ctx}(hR:Rel h c):∀(n:Nat) {d:DV} {v:Value} {r:Option DV},VR c d v→uZ tE tF h n d=some r →
  ∃ (q:Option Int) (k:Nat),rK tE tF c.w v q k∧r=q.map (.int .i64 ·):=by
 intro n
 induction n with
 | zero=>intro d v r _ hf;cases hf
 | succ n ih =>
  intro d v r hv hf
  simp only[uZ]at hf
  split at hf
  ·rename_i t x
   cases hv with
   | iface hv =>
    split at hf
    ·rename_i ht
     subst ht
     split at hf
     ·cases hf
      rw[hv.int_inv]
      exact⟨some _,0,.hit _,rfl⟩
     ·cases hf
    ·split at hf
     ·rename_i ht
      subst ht
      split at hf
      ·rename_i y hy
       obtain⟨b,o,rfl,GE⟩:=Ay hy hv
       split at hf
       ·rename_i hl
        cases hf
        obtain⟨u,h1,h2⟩:=Nk hR GE hl
        cases h2
        exact⟨none,0,.stop b o h1,rfl⟩
       ·rename_i d' hl
        obtain⟨u,h1,h2⟩:=Nk hR GE hl
        obtain⟨q,k,k1,k2⟩:=ih h2 hf
        exact⟨q,k+1,.step b o u q k h1 k1,k2⟩
       ·cases hf
      ·cases hf
     ·cases hf
  ·cases hf
theorem BP{h h':aA}{id sz idx off n:Nat}{x:DV}(hs:gY h n (.ptr id sz idx off) x=some h'):∃ ety xs cap e,h.get id=some (.arr ety sz xs cap)∧h.lim≤id∧bF n x=true∧off+n≤sz∧xs[idx]?=some e∧(aK sz e).length=sz∧h'=h.set id (.arr ety sz (xs.set idx (turn sz off n e x)) cap):=by
 unfold gY at hs
 simp only at hs
 split at hs
 ·rename_i ety eG xs cap hg
  split at hs
  ·rename_i hc
   obtain⟨h1,h2,h3,h4⟩:=hc
   subst h1
   split at hs
   ·rename_i e he
    split at hs
    ·rename_i hl
     cases hs
     exact⟨ety,xs,cap,e,hg,h2,h3,h4,he,hl,rfl⟩
    ·cases hs
   ·cases hs
  ·cases hs
 ·cases hs
theorem OV{cur:Array Value}{p:Nat}{u:Value}(hp:p<cur.size):spl cur p [u]=cur.setIfInBounds p u:=by
 have cT:p+[u].length≤cur.size:=by simp only[List.length_singleton];omega
 apply Array.ext_getElem?
 intro q
 rw[qD cT,Array.getElem?_setIfInBounds]
 by_cases hq:q<p
 ·rw[if_pos hq,if_neg (by omega)]
 ·rw[if_neg hq]
  by_cases he:q=p
  ·subst he
   rw[if_pos (by simp),if_pos rfl,if_pos hp]
   simp
  ·rw[if_neg (by simp;omega),if_neg (by omega)]
theorem oV{h h':aA}{c:Ctx}(hR:Rel h c){id sz idx off:Nat}{x:DV}{p:Addr}{u:Value}(vx:VR c (.ptr id sz idx off) (.pointer (some p)))(hs:gY h 1 (.ptr id sz idx off) x=some h')
  (vy:VR c x u) (wJ:u.cells=#[u]):(∃ old,c.w.cell? p=some old)∧c.w.frozen? p=false∧∃ ρ',Rel h' (c.next (c.w.setCell p u) ρ' h')∧bS c (c.next (c.w.setCell p u) ρ' h'):=by
 obtain⟨ety,xs,cap,e,hg,aO,hstor,hoff,he,mP,rfl⟩:=BP hs
 obtain⟨b,base,dX,hρ⟩:=vx.ptr_inv
 cases dX
 obtain⟨cur,m,g1,g2,g3,g4,g5,g6⟩:=hR.arr hg hρ
 obtain⟨s1,s2,s4,s3⟩:=lU hstor vy
 obtain⟨hidx,Th⟩:=List.getElem?_eq_some_iff.1 he
 have Jk:idx*sz+sz≤m*sz:=by
  have:(idx+1)*sz≤m*sz:=Nat.mul_le_mul_right _ (by omega)
  rw[Nat.add_mul]at this;omega
 have hu:u.cells.toList=[u]:=by rw[wJ]
 rw[hu]at s2 s4 s3
 have hp:base+idx*sz+off+[u].length≤cur.size:=by rw[s2];omega
 have TC:base+idx*sz+off<cur.size:=by simp at hp;omega
 have hturn:aK sz (turn sz off 1 e x)=(aK sz e).take off++aK 1 x++(aK sz e).drop (off+1):=by
  unfold turn
  split
  ·rename_i hc
   obtain⟨e1,e2⟩:=hc
   subst e1
   rw[e2]
   simp[mP]
  ·rfl
 obtain⟨k1,k2⟩:=hR.write hg hρ g1 g2 g3 (xs.set idx (turn sz off 1 e x)) (by simp) g4 g5 (base+idx*sz+off) [u] hp s4 (lB.2 fun k d hk=>by
  rw[List.getElem?_set]at hk
  have g6':=lB.1 g6
  by_cases RC:idx=k
  ·subst RC
   rw[if_pos rfl,if_pos hidx]at hk
   cases hk
   obtain⟨w1,w2⟩:=g6' idx e he
   rw[hturn]
   refine⟨by simp only[List.length_append,List.length_take,List.length_drop,mP,s1];omega,?_⟩
   have l1:((aK sz e).take off).length=off:=by rw[List.length_take,mP];omega
   refine eB.append (eB.append ?_ ?_) ?_
   ·exact(w2.take off).other hp (.inl (by rw[l1];exact Nat.le_refl _))
   ·rw[l1]
    exact eB.same hp (by rw[s1,s2];exact Nat.le_refl _) s3
   ·rw[List.length_append,l1,s1]
    have:=(w2.drop (off+1)).other hp (.inr (by rw[s2];omega))
    simpa[Nat.add_assoc]using this
  ·rw[if_neg RC]at hk
   obtain⟨w1,w2⟩:=g6' k d hk
   refine⟨w1,w2.other hp ?_⟩
   rw[w1,s2]
   rcases Nat.lt_or_gt_of_ne RC with aZ|hgt
   ·have:idx*sz+(sz-1)<k*sz:=mH aZ (by omega)
    right;omega
   ·have:k*sz+(sz-1)<idx*sz:=mH hgt (by omega)
    left;omega)
 refine⟨⟨cur[base+idx*sz+off],?_⟩,pK (ob:=.cells cur ety (0,0)) (by exact g1) rfl,c.ρ,?_⟩
 ·simp[World.cell?,g1,TC]
 ·rw[setCell_eq_setRow c.w b _ cur ety (0,0) u g1,←OV TC]
  exact⟨k1,k2⟩
theorem Uz{h h':aA}{c:Ctx}(hR:Rel h c){w1:World}(hb:Below c.w.heap.size c.w w1)(hf:(∀a,w1.frozen? a=c.w.frozen? a)∧c.w.drawn≤w1.drawn){id sz idx off:Nat}{x:DV}{p:Addr}{u:Value}(hp:VR c (.ptr id sz idx off) (.pointer (some p)))
  (hs:gY h 1 (.ptr id sz idx off) x=some h') (hx:VR c x u) (wJ:u.cells=#[u]) {d:DV} {v:Value} (hv:VR c d v):lS h c h' (w1.setCell p u) d v:=by
 obtain⟨k1,k2⟩:=hR.grow hb (fun a _=>hf.1 a) hf.2
 obtain⟨_,_,ρ',m1,m2⟩:=oV k1 (hp.mono k2) hs (hx.mono k2) wJ
 exact⟨ρ',m1,k2.trans m2,(hv.mono k2).mono m2⟩
theorem Tn{c:Ctx}{d1 d2:DV}{vals:List Value}(hv:VRs c [d1,d2] vals):∃ v1 v2,vals=[v1,v2]∧VR c d1 v1∧VR c d2 v2:=by
 have hl:=hv.1
 cases vals with
 | nil=>simp at hl
 | cons a r=>cases r with
  | nil=>simp at hl
  | cons b r=>cases r with
   | nil=>exact⟨a,b,rfl,hv.2 0 (by simp) (by simp),hv.2 1 (by simp) (by simp)⟩
   | cons c r=>simp at hl
theorem AaB{P:Program}{f:Nat}{fn:Func}{tE tF tPE tPF:TypeId}(T:NH P f fn tE tF tPE tPF):oT P f (asHook tE tF tPE tPF):=by
 have Bp : fn.name ≠ "runtime.NumGoroutine" := by simpa using T.hn
 obtain⟨body,hbody⟩:=Option.isSome_iff_exists.1 T.hb
 refine⟨fun args h d h' c vals hs hR hv=>?_,fun h args v h' hl hs=>?_⟩
 ·have kL:=fun a=>lD T.hf hbody Bp (w:=c.w) a
  refine .inr ⟨f,vals.toArray,kL _,?_⟩
  unfold asHook at hs
  split at hs
  ·-- nil
   cases hs
   obtain⟨v1,v2,rfl,h1,h2⟩:=Tn hv
   cases h1
   refine(T.nil v2 c.w).mono fun e w' hp=>?_
   obtain⟨rfl,rfl⟩:=hp
   exact⟨_,rfl,lS.pure hR (.bool false)⟩
  ·rename_i t x t' id sz idx off
   obtain⟨v1,v2,rfl,h1,h2⟩:=Tn hv
   cases h1 with
   | iface h1 =>
   rename_i v1
   cases h2 with
   | iface h2 =>
   obtain⟨b,base,rfl,hρ⟩:=h2.ptr_inv
   split at hs
   ·rename_i ht
    subst ht
    split at hs
    ·rename_i k hk
     split at hs
     ·rename_i h'' cW
      cases hs
      obtain⟨q,n,NS,hq⟩:=yX hR 50 (.iface h1) hk
      cases q with
      | none=>cases hq
      | some q =>
       cases hq
       obtain⟨⟨old,ho⟩,rQ,_⟩:=oV hR h2 cW (VR.int .i64 q) rfl
       refine(T.num _ _ n _ old c.w hR.laid NS ho rQ).mono fun e w' hp=>?_
       obtain⟨rfl,w1,⟨hb,hf⟩,rfl⟩:=hp
       exact⟨_,rfl,Uz hR hb hf h2 cW (.int .i64 q) rfl (.bool true)⟩
     ·cases hs
    ·rename_i hk
     split at hs
     ·rename_i Jc
      cases hs
      obtain⟨h'',cW⟩:=Option.isSome_iff_exists.1 Jc
      obtain⟨q,n,NS,hq⟩:=yX hR 50 (.iface h1) hk
      cases q with
      | some q=>cases hq
      | none =>
       obtain⟨⟨old,ho⟩,rQ,_⟩:=oV hR h2 cW (VR.int .i64 0) rfl
       refine(T.num _ _ n _ old c.w hR.laid NS ho rQ).mono fun e w' hp=>?_
       obtain⟨rfl,w1,⟨hb,hf⟩,rfl⟩:=hp
       obtain⟨k1,k2⟩:=hR.grow hb (fun a _=>hf.1 a) hf.2
       exact⟨_,rfl,_,k1,k2,.bool false⟩
     ·cases hs
    ·cases hs
   ·split at hs
    ·rename_i ht
     subst ht
     split at hs
     ·rename_i htF
      subst htF
      split at hs
      ·rename_i y hy
       split at hs
       ·rename_i h'' cW
        cases hs
        obtain⟨bq,oq,rfl,_⟩:=Ay hy h1
        obtain⟨⟨old,ho⟩,rQ,_⟩:=oV hR h2 cW h1 rfl
        refine(T.hit _ _ old c.w hR.laid ho rQ).mono fun e w' hp=>?_
        obtain⟨rfl,w1,⟨hb,hf⟩,rfl⟩:=hp
        exact⟨_,rfl,Uz hR hb hf h2 cW h1 rfl (.bool true)⟩
       ·cases hs
      ·cases hs
     ·split at hs
      ·rename_i htE
       subst htE
       split at hs
       ·cases hs
        rw[h1.int_inv]
        refine(T.miss _ _ c.w hR.laid).mono fun e w' hp=>?_
        obtain⟨rfl,hb,hf⟩:=hp
        obtain⟨k1,k2⟩:=hR.grow hb (fun a _=>hf.1 a) hf.2
        exact⟨_,rfl,_,k1,k2,.bool false⟩
       ·cases hs
      ·cases hs
    ·cases hs
  ·cases hs
 ·unfold asHook at hs
  split at hs
  ·cases hs;exact .refl _
  ·split at hs
   ·split at hs
    ·split at hs
     ·rename_i cW
      cases hs;exact uB cW
     ·cases hs
    ·split at hs
     ·cases hs;exact .refl _
     ·cases hs
    ·cases hs
   ·split at hs
    ·split at hs
     ·split at hs
      ·split at hs
       ·rename_i cW
        cases hs;exact uB cW
       ·cases hs
      ·cases hs
     ·split at hs
      ·split at hs
       ·cases hs;exact .refl _
       ·cases hs
      ·cases hs
    ·cases hs
  ·cases hs
end Go.Dm
/-
Part 41 of "Dm": slices.Clone whose row is written no more.
-/
namespace Go.Dm
def uR(ety sz bytes:Nat):rT:=fun h args =>
 match eK ety sz bytes h args with
 | some (v,h1)=>gI h1 v
 | none=>none
theorem lS.frozen{h h1 h2:aA}{c:Ctx}{w:World}{d d':DV}{v:Value}(hp:lS h c h1 w d v)(hf:gI h1 d=some (d',h2)):lS h c h2 w d' v:=by
 obtain⟨ρ,k1,k2,k3⟩:=hp
 obtain⟨⟨q1,q2⟩,q3⟩:=uX k1 k3 hf
 exact⟨ρ,q1,k2.trans q2,q3⟩
theorem KW{P:Program}{f:Nat}{ety sz bytes:Nat}(hk:oT P f (eK ety sz bytes)):oT P f (uR ety sz bytes):=by
 refine⟨fun args h d h' c vals hs hR hv=>?_,fun h args v h' hl hs=>?_⟩
 ·unfold uR at hs
  split at hs
  ·rename_i v h1 hc
   rcases hk.1 args h v h1 c vals hc hR hv with⟨u,w',k1,k2⟩|⟨f',vals',k1,k2⟩
   ·exact .inl ⟨u,w',k1,k2.frozen hs⟩
   ·exact .inr ⟨f',vals',k1,k2.mono fun e w hp=>by
     obtain⟨u,rfl,hp⟩:=hp
     exact⟨u,rfl,hp.frozen hs⟩⟩
  ·cases hs
 ·unfold uR at hs
  split at hs
  ·rename_i u h1 hc
   exact(hk.2 h args u h1 hl hc).trans (uY hs)
  ·cases hs
end Go.Dm
/-
Part 42 of "Dm": what stands in the place of slices.Sort of ints and of slices.SortFunc of pairs of ints: the row sorted.
-/
namespace Go.Dm
def Xd{α:Type}(lt:α→α→Bool)(x:α):List α→List α
 | []=>[x]
 | y::r=>if lt y x=true then y::Xd lt x r else x::y::r
def lO{α:Type}(lt:α→α→Bool)(l:List α):List α:=l.foldr (Xd lt) []
def ltZ(a b:Int):Bool:=decide (a<b)
def ltP(a b:Int×Int):Bool:=decide (a.1<b.1∨(a.1=b.1∧a.2<b.2))
def unI:DV→Option Int
 | .int .i64 n=>some n
 | _=>none
def unP:DV→Option (Int×Int)
 | .agg [.int .i64 a,.int .i64 b]=>some (a,b)
 | _=>none
def mkI(n:Int):DV:=.int .i64 n
def mkP(p:Int×Int):DV:=.agg [.int .i64 p.1,.int .i64 p.2]
def xL{α:Type}(sz:Nat)(un:DV→Option α)(mk:α→DV)(lt:α→α→Bool)(h:aA):DV→Option (DV×aA)
 | .nsl=>some (.tup [],h)
 | .sl id eG off len=>match h.get id with
  | some (.arr ety lN xs cap) =>
   if sz=eG∧sz=lN∧h.lim≤id∧off+len≤xs.length∧len<4611686018427387904 then
    match((xs.drop off).take len).mapM un with
    | some zs=>some (.tup [],h.set id (.arr ety sz (gZ xs ((lO lt zs).map mk) off) cap))
    | none=>none
   else none
  | _=>none
 | _=>none
def sW:rT:=fun h args=>match args with
 | [v]=>xL 1 unI mkI ltZ h v
 | _=>none
def qJ(g:Nat):rT:=fun h args=>match args with
 | [v,.func g' []]=>if Nat.beq g' g=true then xL 2 unP mkP ltP h v else none
 | _=>none
end Go.Dm
/-
Part 43 of "Dm": a row sorted is what the library's sorting leaves.
-/
namespace Go.Dm
structure Kt(P:Program)(f:FuncId)(k:Nat)(extra:List Value){α:Type}(enc:α→List Value)(lt:α→α→Bool):Prop where
 enter:∀args w,(callFunc f args).run P w=.ok (.enter f args) w
 none:∀(a:Option Addr) (cap:Nat) (w:World),Calls P f (.slice a 0 cap::extra).toArray w fun e w'=>e=.returned (.tuple #[])∧w'=w
 row:∀(b co cap:Nat) (zs:List α) (w:World),zs.length<4611686018427387904→b<w.heap.size→(∀b' v,Sd=some (b',v)→b'≠b∧b'<w.heap.size∧w.cell? ⟨b',0,Option.none⟩=some v) →
  (∀i (hi:i<zs.length) j,j<k→w.cell? ⟨b,co+i*k+j,Option.none⟩=(enc zs[i])[j]?∧w.frozen? ⟨b,co+i*k+j,Option.none⟩=false) →
  Calls P f (.slice (some ⟨b,co,Option.none⟩) zs.length cap::extra).toArray w fun e w'=>e=.returned (.tuple #[])∧∃ n os,w'=Sort.grow (Sort.putRow id (Sort.ahead w n) b co ((lO lt zs).flatMap enc).toArray) os
theorem Lx{h:aA}{id:Nat}{o:DO}(hg:h.get id=some o):h.set id o=h:=by
 have aZ:=dQ hg
 unfold aA.get at hg
 rw[if_pos aZ]at hg
 unfold aA.set
 have:h.objs.set (h.n-1-id) o=h.objs:=by
  apply List.ext_getElem?
  intro j
  rw[List.getElem?_set]
  by_cases e:h.n-1-id=j
  ·subst e
   rw[if_pos rfl]
   split
   ·exact hg.symm
   ·rename_i hh;rw[List.getElem?_eq_none (by omega)]
  ·rw[if_neg e]
 rw[this]
theorem Em{α:Type}{un:DV→Option α}:∀{l:List DV} {zs:List α},l.mapM un=some zs→zs.length=l.length∧∀i (h1:i<l.length) (h2:i<zs.length),un l[i]=some zs[i]
 | [],zs,h=>by
  simp at h
  subst h
  exact⟨rfl,fun i h1=>absurd h1 (Nat.not_lt_zero _)⟩
 | d::l,zs,h=>by
  rw[List.mapM_cons]at h
  cases h1:un d with
  | none=>simp[h1]at h
  | some z =>
   cases h2:l.mapM un with
   | none=>simp[h1,h2]at h
   | some r =>
    simp[h1,h2]at h
    subst h
    obtain⟨e1,e2⟩:=Em h2
    refine⟨by simp[e1],fun i a1 a2=>?_⟩
    cases i with
    | zero=>exact h1
    | succ i=>exact e2 i (by simpa using a1) (by simpa using a2)
theorem CS{w:World}{b p:Nat}{cur:Array Value}{ety:TypeId}(g1:w.heap[b]?=some (.cells cur ety (0,0)))(vs:List Value)(hp:p+vs.length≤cur.size) :
  (Sort.putRow id w b p vs.toArray).heap=(w.setRow b (spl cur p vs)).heap:=by
 apply Array.ext_getElem?
 intro q
 by_cases hq:q=b
 ·subst hq
  rw[setRow_heap w q cur _ ety (0,0) g1]
  simp only[Sort.putRow,Sort.mapBlock,Array.getElem?_modify,if_true,g1,Option.map_some,Sort.onCells]
  congr 2
  apply Array.ext_getElem?
  intro j
  rw[qD hp]
  simp only[Sort.putCells,Array.getElem?_mapIdx,List.size_toArray]
  by_cases h1:j<p
  ·rw[if_pos h1]
   have:¬(p≤j∧j<p+vs.length):=by omega
   simp[this]
  ·rw[if_neg h1]
   by_cases h2:j<p+vs.length
   ·rw[if_pos h2]
    have h3:p≤j∧j<p+vs.length:=by omega
    have h4:j<cur.size:=by omega
    have h5:j-p<vs.length:=by omega
    simp[h3,h4,h5]
   ·rw[if_neg h2]
    have:¬(p≤j∧j<p+vs.length):=by omega
    simp[this]
 ·rw[setRow_other _ _ _ _ hq]
  simp only[Sort.putRow,Sort.mapBlock,Array.getElem?_modify]
  rw[if_neg (fun e=>hq e.symm)]
theorem sG{α:Type}{enc:α→List Value}{k:Nat}(hk:∀z,(enc z).length=k):∀(zs:List α) (i:Nat) (hi:i<zs.length) (j:Nat),j<k→(zs.flatMap enc)[i*k+j]?=(enc zs[i])[j]?
 | [],i,hi,_,_=>absurd hi (Nat.not_lt_zero _)
 | z::zs,0,_,j,hj=>by
  simp only[List.flatMap_cons,Nat.zero_mul,Nat.zero_add,List.getElem_cons_zero]
  rw[List.getElem?_append_left (by rw[hk];exact hj)]
 | z::zs,i+1,hi,j,hj=>by
  simp only[List.flatMap_cons,List.getElem_cons_succ]
  rw[List.getElem?_append_right (by rw[hk,Nat.add_mul];omega),hk,←sG hk zs i (by simpa using hi) j hj]
  congr 1
  rw[Nat.add_mul];omega
theorem wO{α:Type}{enc:α→List Value}{k:Nat}(hk:∀z,(enc z).length=k)(zs:List α):(zs.flatMap enc).length=zs.length*k:=by
 induction zs with
 | nil=>simp
 | cons z zs ih=>simp only[List.flatMap_cons,List.length_append,hk,ih,List.length_cons,Nat.add_mul];omega
theorem KV{α:Type}(lt:α→α→Bool)(x:α)(l:List α):(Xd lt x l).length=l.length+1:=by
 induction l with
 | nil=>rfl
 | cons y r ih =>
  simp only[Xd]
  split
  ·simp[ih]
  ·rfl
theorem M3{α:Type}(lt:α→α→Bool)(l:List α):(lO lt l).length=l.length:=by
 unfold lO
 induction l with
 | nil=>rfl
 | cons x r ih=>rw[List.foldr_cons,KV,ih];rfl
theorem yO{P:Program}{f:FuncId}{k:Nat}{extra:List Value}{α:Type}{enc:α→List Value}{lt:α→α→Bool}{un:DV→Option α}{mk:α→DV}(C:Kt P f k extra enc lt)(hk:∀z,(enc z).length=k)(h1:∀z,∀v∈enc z,v.oneCell'=true)
  (NL:∀d z,un d=some z→∀(c:Ctx) (j:Nat) (e:DV) (v:Value),(aK k d)[j]?=some e→VR c e v→(enc z)[j]?=some v) (GI:∀z,(aK k (mk z)).length=k∧∀(c:Ctx) (j:Nat) (e:DV),(aK k (mk z))[j]?=some e→∃ u,(enc z)[j]?=some u∧VR c e u)
  {h h':aA} {c:Ctx} {d r:DV} {v:Value} (hR:Rel h c) (hv:VR c d v) (hs:xL k un mk lt h d=some (r,h')):Calls P f (v::extra).toArray c.w (tU h c h' r):=by
 have unit:∀c:Ctx,VR c (.tup []) (.tuple #[]):=fun c=>VR.tup (c:=c) (ds:=[]) (vs:=[]) rfl (fun i h1=>absurd h1 (Nat.not_lt_zero _))
 unfold xL at hs
 split at hs
 ·cases hs
  obtain⟨a,rfl⟩:=hv.nsl_inv
  refine(C.none a 0 c.w).mono fun e w' ⟨he,hw⟩=>⟨_,he,?_⟩
  rw[hw]
  exact lS.pure hR (unit c)
 ·rename_i id eG off len
  split at hs
  ·rename_i ety lN xs cap hg
   split at hs
   ·rename_i cD
    obtain⟨e1,e2,aO,cT,hbig⟩:=cD
    subst e1;subst e2
    split at hs
    ·rename_i zs hz
     cases hs
     obtain⟨z1,z2⟩:=Em hz
     have TI:((xs.drop off).take len).length=len:=by rw[List.length_take,List.length_drop];omega
     rw[TI]at z1
     obtain⟨b,base,gV,jA,nn,pJ,rfl,hρ,eV,Bq,Bs,Fp⟩:=hv.sl_inv
     obtain⟨cur,mm,g1,g2,g3,g4,g5,g6⟩:=hR.arr hg hρ
     by_cases Dh:len=0
     ·subst Dh
      have hz0:zs=[]:=List.length_eq_zero_iff.1 z1
      subst hz0
      have hsp:gZ xs ((lO lt ([]:List α)).map mk) off=xs:=by
       apply List.ext_getElem?
       intro q
       rw[Hp (by simp[lO];omega)]
       split
       ·rfl
       ·rw[if_neg (by simp[lO];omega)]
      rw[hsp,Lx hg]
      refine(C.none _ gV c.w).mono fun e w' ⟨he,hw⟩=>⟨_,he,?_⟩
      rw[hw]
      exact lS.pure hR (unit c)
     ·have pI:jA=base+off*k:=Fp.elim (fun e=>e) (fun e=>by omega)
      subst pI
      have Zv:b<c.w.heap.size:=(Array.getElem?_eq_some_iff.1 g1).1
      have hcells:∀i (hi:i<zs.length) j,j<k→c.w.cell? ⟨b,base+off*k+i*k+j,none⟩=(enc zs[i])[j]?∧c.w.frozen? ⟨b,base+off*k+i*k+j,none⟩=false:=fun i hi j hj=>by
       refine⟨?_,pK (ob:=.cells cur ety (0,0)) g1 rfl⟩
       have hxi:off+i<xs.length:=by omega
       have hu:=z2 i (by rw[TI];omega) hi
       rw[List.getElem_take,List.getElem_drop]at hu
       obtain⟨p1,p2⟩:=g6 (off+i) hxi
       obtain⟨u,q1,q2,q3⟩:=p2 j (by rw[p1];exact hj)
       have q4:=NL _ _ hu c j _ u (List.getElem?_eq_getElem (by rw[p1];exact hj)) q3
       rw[q4]
       have qY:base+off*k+i*k+j=base+(off+i)*k+j:=by rw[Nat.add_mul];omega
       rw[qY,←q1]
       simp[World.cell?,g1]
      have hsl:=M3 lt zs
      have iZ:kK c k ((lO lt zs).map mk) ((lO lt zs).flatMap enc):=by
       refine⟨by rw[wO hk,List.length_map],fun u hu=>?_,fun i d hd=>?_⟩
       ·obtain⟨z,_,hz⟩:=List.mem_flatMap.1 hu
        exact h1 z u hz
       ·rw[List.getElem?_map]at hd
        obtain⟨z,hz,rfl⟩:=Option.map_eq_some_iff.1 hd
        obtain⟨hi,rfl⟩:=List.getElem?_eq_some_iff.1 hz
        obtain⟨m1,m2⟩:=GI (lO lt zs)[i]
        refine⟨m1,fun j e he=>?_⟩
        obtain⟨u,n1,n2⟩:=m2 c j e he
        have hj:=(List.getElem?_eq_some_iff.1 he).1
        exact⟨u,by rw[sG hk _ i hi j (by omega)];exact n1,n2⟩
      obtain⟨nG,mP⟩:=pC g6 g3 g4 iZ (k:=off) (by rw[List.length_map];omega)
      obtain⟨k1,k2⟩:=hR.write hg hρ g1 g2 g3 (gZ xs ((lO lt zs).map mk) off) (sN (by rw[List.length_map];omega)) g4 g5 (base+off*k) _ nG iZ.2.1 mP
      have kU:c.O b:=(hR.own b).2 (.inl ⟨id,_,base,hg,rfl,hρ⟩)
      have hc:=C.row b (base+off*k) gV zs c.w (by omega) Zv (fun b' v hgv=>⟨fun e=>(hR.glob b' v hgv).2.1 (e ▸ kU),(hR.glob b' v hgv).1,(hR.glob b' v hgv).2.2⟩) hcells
      rw[z1]at hc
      refine hc.mono fun e w' ⟨he,n,os,hw⟩=>⟨_,he,?_⟩
      have hheap:=CS g1 ((lO lt zs).flatMap enc) nG
      generalize hW1:c.w.setRow b (spl cur (base+off*k) ((lO lt zs).flatMap enc))=W1 at *
      have eW:W1.heap.size=c.w.heap.size:=by rw[←hW1];simp[World.setRow]
      have hw1:w'.heap=W1.heap++os:=by
       rw[hw]
       rw[←hheap]
       simp only[Sort.grow,Sort.putRow,Sort.mapBlock,Sort.ahead]
      have hold:∀q,q<W1.heap.size→w'.heap[q]?=W1.heap[q]?:=fun q hq=>by rw[hw1,Array.getElem?_append_left hq]
      have hos:w'.os=W1.os∧w'.tape=W1.tape∧w'.output=W1.output:=by rw[hw,←hW1];exact⟨rfl,rfl,rfl⟩
      obtain⟨q1,q2⟩:=k1.grow (w1:=w') ⟨hos.1,hos.2.1,hos.2.2,by rw[hw1];simp[Ctx.next],hold⟩ (fun a ha=>by
       simp only[World.frozen?,Ctx.next]at ha ⊢
       rw[hold _ ha]) (by rw[hw,←hW1];exact Nat.le_add_right _ _)
      rw[Dd]at q1 q2
      exact⟨c.ρ,q1,k2.trans q2,unit _⟩
    ·cases hs
   ·cases hs
  ·cases hs
 ·cases hs
theorem yP{k:Nat}{α:Type}{lt:α→α→Bool}{un:DV→Option α}{mk:α→DV}{h h':aA}{d r:DV}(hs:xL k un mk lt h d=some (r,h')):eS h h':=by
 unfold xL at hs
 split at hs
 ·cases hs;exact .refl _
 ·split at hs
  ·split at hs
   ·rename_i ety sz2 xs cap hg cD
    split at hs
    ·cases hs
     exact eS.set hg cD.2.2.1 _
    ·cases hs
   ·cases hs
  ·cases hs
 ·cases hs
def EV(n:Int):List Value:=[.int .i64 n]
def lL(p:Int×Int):List Value:=[.int .i64 p.1,.int .i64 p.2]
theorem Uv{P:Program}{f:FuncId}(C:Kt P f 1 [] EV ltZ):oT P f sW:=by
 refine⟨fun args h d h' c vals hs hR hv=>?_,fun h args v h' _ hs=>?_⟩
 ·unfold sW at hs
  split at hs
  ·rename_i x
   obtain⟨v,rfl⟩:∃ v,vals=[v]:=by
    have:=hv.1
    match vals with
    | [v]=>exact⟨v,rfl⟩
    | []=>simp at this
    | _::_::_=>simp at this
   have hx:VR c x v:=hv.2 0 (by simp) (by simp)
   refine .inr ⟨f,_,C.enter _ _,yO C (fun _=>rfl) (fun z u hu=>by simp[EV]at hu;subst hu;rfl) (fun d z hd c j e v he hv=>?_) (fun z=>⟨rfl,fun c j e he=>?_⟩) hR hx hs⟩
   ·unfold unI at hd
    split at hd
    ·cases hd
     rcases j with _|j
     ·simp[aK]at he;subst he
      rw[hv.int_inv];rfl
     ·simp[aK]at he
    ·cases hd
   ·rcases j with _|j
    ·simp[aK,mkI]at he;subst he
     exact⟨_,rfl,.int _ _⟩
    ·simp[aK,mkI]at he
  ·cases hs
 ·unfold sW at hs
  split at hs
  ·exact yP hs
  ·cases hs
theorem Ql{P:Program}{f:FuncId}{g:Nat}(C:Kt P f 2 [.func (.func g) #[] #[]] lL ltP):oT P f (qJ g):=by
 refine⟨fun args h d h' c vals hs hR hv=>?_,fun h args v h' _ hs=>?_⟩
 ·unfold qJ at hs
  split at hs
  ·rename_i x g'
   split at hs
   ·rename_i hgg
    have hgg:=Nat.eq_of_beq_eq_true hgg
    subst hgg
    obtain⟨v,u,rfl⟩:∃ v u,vals=[v,u]:=by
     have:=hv.1
     match vals with
     | [v,u]=>exact⟨v,u,rfl⟩
     | []=>simp at this
     | [_]=>simp at this
     | _::_::_::_=>simp at this
    have hx:VR c x v:=hv.2 0 (by simp) (by simp)
    have hf:VR c (.func g' []) u:=hv.2 1 (by simp) (by simp)
    obtain⟨vs,rfl,hl,_⟩:=hf.func_inv
    have:vs=[]:=List.length_eq_zero_iff.1 hl.symm
    subst this
    refine .inr ⟨f,_,C.enter _ _,yO C (fun _=>rfl) (fun z u hu=>by simp[lL]at hu;rcases hu with rfl|rfl<;>rfl) (fun d z hd c j e v he hv=>?_) (fun z=>⟨rfl,fun c j e he=>?_⟩) hR hx hs⟩
    ·unfold unP at hd
     split at hd
     ·cases hd
      rcases j with _|_|j
      ·simp[aK]at he;subst he
       rw[hv.int_inv];rfl
      ·simp[aK]at he;subst he
       rw[hv.int_inv];rfl
      ·simp[aK]at he
     ·cases hd
    ·rcases j with _|_|j
     ·simp[aK,mkP]at he;subst he
      exact⟨_,rfl,.int _ _⟩
     ·simp[aK,mkP]at he;subst he
      exact⟨_,rfl,.int _ _⟩
     ·simp[aK,mkP]at he
   ·cases hs
  ·cases hs
 ·unfold qJ at hs
  split at hs
  ·split at hs
   ·exact yP hs
   ·cases hs
  ·cases hs
end Go.Dm
/-
Part 1 of "Dw", the machine's runs dE a bound: what a code does if it is given steps enough; the equations of that.
-/
namespace Go.Dm
abbrev xH:=aM→Env→aA→Res
abbrev gO:=Nat→List DV→aA→Option (DV×aA)
def pL(r1 r2:xH):Prop:=∀c env h e bA h',r1 c env h=.ok e bA h'→r2 c env h=.ok e bA h'
def rN(c1 c2:gO):Prop:=∀f args h r,c1 f args h=some r→c2 f args h=some r
theorem pL.refl(r:xH):pL r r:=fun _ _ _ _ _ _ h=>h
theorem pL.trans{a b c:xH}(h:pL a b)(g:pL b c):pL a c:=fun x y z e u v k=>g _ _ _ _ _ _ (h x y z e u v k)
theorem tB{c1 c2:gO}(hc:rN c1 c2){o:DOp}{env:Env}{h:aA}{r:DV×aA}(hs:bO c1 o env h=some r):bO c2 o env h=some r:=by
 cases o
 case call f args =>
  simp only[bO]at hs ⊢
  split at hs
  ·exact hc _ _ _ _ hs
  ·cases hs
 all_goals exact hs
theorem EG{c1 c2:gO}(hc:rN c1 c2){l:Nat}{o:DOp}{env:Env}{h:aA}{r:DV×aA}(hs:nH c1 l o env h=some r):nH c2 l o env h=some r:=by
 unfold nH at hs ⊢
 split at hs
 ·rename_i v h' h1
  rw[tB hc h1];exact hs
 ·cases hs
theorem Wa{c1 c2:gO}(hc:rN c1 c2){q:Nat}{L:cU}{o:DOp}{env:Env}{h:aA}{r:DV×aA×cU}(hs:mX c1 q L o env h=some r):mX c2 q L o env h=some r:=by
 unfold mX at hs ⊢
 split at hs
 ·split at hs
  ·rename_i h1
   rw[tB hc h1];exact hs
  ·cases hs
 ·cases hs
theorem Ev{c1 c2:gO}(hc:rN c1 c2){l q:Nat}{L:cU}{o:DOp}{env:Env}{h:aA}{r:DV×aA×cU}(hs:dD c1 l q L o env h=some r):dD c2 l q L o env h=some r:=by
 unfold dD at hs ⊢
 split at hs
 ·exact hs
 ·split at hs
  ·exact Wa hc hs
  ·split at hs
   ·rename_i v h' h1
    rw[EG hc h1];exact hs
   ·cases hs
theorem xM{c1 c2:gO}(hc:rN c1 c2):∀(ops:List aR) {env:Env} {h:aA} {r:Env×aA},fL c1 ops env h=some r→fL c2 ops env h=some r:=by
 intro ops
 induction ops with
 | nil=>intro env h r hs;exact hs
 | cons o ops ih =>
  intro env h r hs
  simp only[fL]at hs ⊢
  split at hs
  ·split at hs
   ·rename_i v h' h1
    rw[tB hc h1];exact ih hs
   ·cases hs
  ·exact ih hs
  ·cases hs
theorem uH{c1 c2:gO}(hc:rN c1 c2):∀(ops:List aR) {env:Env} {hs:List aA} {L:cU} {r:Env×aA},eC c1 ops env hs L=some r→eC c2 ops env hs L=some r:=by
 intro ops
 induction ops with
 | nil=>intro env h L r hs;exact hs
 | cons o ops ih =>
  intro env hs L r he
  cases hs with
  | nil=>simp[eC]at he
  | cons h hs =>
   simp only[eC]at he ⊢
   split at he
   ·cases he
   ·split at he
    ·split at he
     ·rename_i rQ
      rw[if_pos rQ]
      split at he
      ·split at he
       ·exact ih he
       ·cases he
      ·cases he
     ·cases he
    ·split at he
     ·rename_i v h' h1
      rw[tB hc h1];exact ih he
     ·cases he
    ·split at he
     ·split at he
      ·rename_i v h' L' h1
       rw[Ev hc h1];exact ih he
      ·cases he
     ·cases he
   ·exact ih he
def kY(run:xH)(df:aS)(args:List DV)(h:aA):Option (DV×aA) :=
 match run df.body (args++List.replicate (df.ntmps-args.length) bR) h with
 | .ok (.exit _) _ _=>none
 | .ok _ env h'=>match aT h' env df.results with
  | some v=>some (v,h')
  | none=>none
 | .fail=>none
theorem rF{r1 r2:xH}(hr:pL r1 r2){df:aS}{args:List DV}{h:aA}{r:DV×aA}(hs:kY r1 df args h=some r):kY r2 df args h=some r:=by
 unfold kY at hs ⊢
 split at hs
 ·cases hs
 ·rename_i e env h' dW h1
  rw[hr _ _ _ _ _ _ h1]
  cases e with
  | exit id=>exact absurd rfl (dW id)
  | normal=>exact hs
  | ret=>exact hs
 ·cases hs
def qU(run:xH)(df:aS)(rest:List DV)(id sz off len ety:Nat)(xs:List DV)(h:aA)(e:Nat)(cap:Option Nat):Option (List DV) :=
 zL h ety sz (kY run df (.sl h.n sz off len::rest) {(h.set id .dead).push (.arr ety sz (xs++List.replicate e .unk) cap)with lim:=h.n})
theorem qK{r1 r2:xH}(hr:pL r1 r2){df:aS}{rest:List DV}{id sz off len ety:Nat}{xs:List DV}{h:aA}{e:Nat}{cap:Option Nat}{l:List DV}(hs:qU r1 df rest id sz off len ety xs h e cap=some l) :
  qU r2 df rest id sz off len ety xs h e cap=some l:=by
 unfold qU at hs ⊢
 cases hg:kY r1 df (.sl h.n sz off len::rest) {(h.set id .dead).push (.arr ety sz (xs++List.replicate e .unk) cap)with lim:=h.n} with
 | none=>rw[hg]at hs;simp[zL]at hs
 | some r=>rw[rF hr hg,←hg];exact hs
def pE(run:xH)(df:aS)(rest:List DV)(id sz off len ety:Nat)(xs:List DV)(h:aA):Option (DV×aA) :=
 match qU run df rest id sz off len ety xs h ((rest.map Og).foldl (·+·) 0) none with
 | some l=>if(List.range ((rest.map Og).foldl (·+·) 0)).all (fun e=>match qU run df rest id sz off len ety xs h e (some (xs.length+e))with|some l'=>yK l l'|none=>false)=true then
   some (.sl h.n sz 0 l.length,(h.set id .dead).push (.arr ety sz l none))else none
 | none=>none
theorem Uu{r1 r2:xH}(hr:pL r1 r2){df:aS}{rest:List DV}{id sz off len ety:Nat}{xs:List DV}{h:aA}{r:DV×aA}(hs:pE r1 df rest id sz off len ety xs h=some r) :
  pE r2 df rest id sz off len ety xs h=some r:=by
 unfold pE at hs ⊢
 split at hs
 ·rename_i l hl
  split at hs
  ·rename_i oH
   rw[qK hr hl]
   simp only
   rw[if_pos]
   ·exact hs
   ·refine List.all_eq_true.2 fun e he=>?_
    have:=List.all_eq_true.1 oH e he
    split at this
    ·rename_i l' Fl
     rw[qK hr Fl];exact this
    ·cases this
  ·cases hs
 ·cases hs
def gF(run:xH)(df:aS)(args:List DV)(h:aA):Option (DV×aA) :=
 match df.mode with
 | .full=>kY run df args h
 | .fresh=>match kY run df args {h with lim:=h.n} with
  | some (v,h')=>some (v,{h' with lim:=h.lim})
  | none=>none
 | .pure=>match args.mapM (resolve true h cO)with
  | some ds=>match kY run df ds {objs:=[],n:=0,lim:=0} with
   | some (v,h')=>match resolve false h' cO v with
    | some d=>if bH cO d then some (d,h)else none
    | none=>none
   | none=>none
  | none=>none
 | .split=>match args with
  | .sl id sz off len::rest=>match h.get id with
   | some (.arr ety eG xs none)=>if sz=eG∧h.lim≤id then pE run df rest id sz off len ety xs h else none
   | _=>kY run df args h
  | _=>kY run df args h
 | .frz=>match uN iR h args with
  | some (as,h1)=>match as.mapM (resolve true h1 cO)with
   | some ds=>match kY run df ds {objs:=[],n:=0,lim:=0} with
    | some (v,h')=>match resolve false h' cO v with
     | some d=>if bH cO d then some (d,h1)else none
     | none=>none
    | none=>none
   | none=>none
  | none=>none
theorem wU(run:xH)(D:cL)(f:Nat)(args:List DV)(h:aA) :
  enter run D f args h=match D.hook f with
   | some hk=>hk h args
   | none=>match D.fn f with
    | none=>none
    | some df=>gF run df args h:=by
 unfold enter
 cases D.hook f with
 | some hk=>rfl
 | none =>
  cases D.fn f with
  | none=>rfl
  | some df =>
   simp only
   unfold gF
   cases df.mode<;>rfl
theorem K8{r1 r2:xH}(hr:pL r1 r2){df:aS}{args:List DV}{h:aA}{r:DV×aA}(hs:gF r1 df args h=some r):gF r2 df args h=some r:=by
 unfold gF at hs ⊢
 split at hs
 ·exact rF hr hs
 ·split at hs
  ·rename_i v h' h1
   rw[rF hr h1];exact hs
  ·cases hs
 ·split at hs
  ·split at hs
   ·rename_i h1
    rw[rF hr h1];exact hs
   ·cases hs
  ·cases hs
 ·split at hs
  ·split at hs
   ·split at hs
    ·rename_i hc
     rw[if_pos hc]
     exact Uu hr hs
    ·cases hs
   ·rename_i dW
    exact rF hr hs
  ·exact rF hr hs
 ·split at hs
  ·split at hs
   ·split at hs
    ·rename_i h1
     rw[rF hr h1];exact hs
    ·cases hs
   ·cases hs
  ·cases hs
theorem kZ{r1 r2:xH}(hr:pL r1 r2)(D:cL):rN (enter r1 D) (enter r2 D):=by
 intro f args h r hs
 rw[wU]at hs ⊢
 split at hs
 ·exact hs
 ·split at hs
  ·cases hs
  ·exact K8 hr hs
theorem CM{c1 c2:gO}{r1 r2:xH}(hc:rN c1 c2)(hr:pL r1 r2){it nx ok en X Y p:Nat}{ops:List aR}{b:aM}:∀(l:List (DV×DV)) {env:Env} {h:aA} {e:Ex} {bA:Env} {h':aA},
  rounds c1 r1 it nx ok en X Y p ops b l env h=.ok e bA h'→rounds c2 r2 it nx ok en X Y p ops b l env h=.ok e bA h':=by
 intro l
 induction l with
 | nil=>intro env h e bA h' he;exact he
 | cons x r ih =>
  intro env h e bA h' he
  obtain⟨k,v⟩:=x
  simp only[rounds]at he ⊢
  split at he
  ·split at he
   ·rename_i cD
    rw[if_pos cD]
    split at he
    ·rename_i h2
     rw[xM hc _ h2]
     simp only
     split at he
     ·rename_i h3;rw[hr _ _ _ _ _ _ h3];exact ih he
     ·rename_i h3
      rw[hr _ _ _ _ _ _ h3]
      simp only
      split at he
      ·rename_i hi;rw[if_pos hi];exact ih he
      ·rename_i hi;rw[if_neg hi];exact he
     ·rename_i h3 h4
      rw[hr _ _ _ _ _ _ he]
      cases e with
      | normal=>exact absurd he (h3 _ _)
      | exit i=>exact absurd he (h4 _ _ _)
      | ret=>rfl
    ·cases he
   ·cases he
  ·cases he
theorem Mp{c1 c2:gO}{r1 r2:xH}(hc:rN c1 c2)(hr:pL r1 r2){it nx ok en X Y m:Nat}{kl:List Nat}{ops:List aR}{b:aM}{es p:List (DV×DV)}{env:Env}{h:aA}{e:Ex}{bA:Env}{h':aA}
  (he:qQ c1 r1 it nx ok en X Y kl ops b m es env h p=.ok e bA h'):qQ c2 r2 it nx ok en X Y kl ops b m es env h p=.ok e bA h':=by
 unfold qQ at he ⊢
 cases GG:rounds c1 r1 it nx ok en X Y h.n ops b p (env.set it (.ptr h.n 0 0 0)) (sX h m)with
 | fail=>rw[GG]at he;cases he
 | ok e1 env1 h1=>rw[CM hc hr _ GG,←GG];exact he
theorem RV{e:Ex}{env:Env}{h:aA}{r:Res}(hs:ET e env h r=true):∃ e1 env1 h1,r=.ok e1 env1 h1:=by
 cases r with
 | fail=>cases hs
 | ok e1 env1 h1=>exact⟨_,_,_,rfl⟩
theorem GS{c1 c2:gO}{r1 r2:xH}(hc:rN c1 c2)(hr:pL r1 r2){it nx ok en X Y:Nat}{kl:List Nat}{ops:List aR}{b:aM}{env:Env}{h:aA}{x:Option (Nat×List (DV×DV))}{e:Ex}{bA:Env}{h':aA}
  (he:Gn c1 r1 it nx ok en X Y kl ops b env h x=.ok e bA h'):Gn c2 r2 it nx ok en X Y kl ops b env h x=.ok e bA h':=by
 cases x with
 | none=>cases he
 | some x =>
  obtain⟨m,es⟩:=x
  simp only[Gn]at he ⊢
  split at he
  ·rename_i h3
   rw[Mp hc hr h3]
   simp only
   split at he
   ·rename_i oH
    rw[if_pos]
    ·exact he
    ·refine List.all_eq_true.2 fun p hp=>?_
     have:=List.all_eq_true.1 oH p hp
     obtain⟨e1,env1,h1,h4⟩:=RV this
     rw[Mp hc hr h4,←h4];exact this
   ·cases he
  ·cases he
theorem Sh(D:cL):∀n,pL (dT D n) (dT D (n+1)):=by
 intro n
 induction n with
 | zero=>intro c env h e bA h' he;cases he
 | succ n ih =>
  intro c env h e bA h' he
  cases c<;>unfold dT at he<;>unfold dT<;>simp only at he ⊢
  case skip=>exact he
  case exit=>exact he
  case ret=>exact he
  case seq a b =>
   split at he
   ·rename_i h1
    rw[ih _ _ _ _ _ _ h1];exact ih _ _ _ _ _ _ he
   ·rename_i dW
    rw[ih _ _ _ _ _ _ he]
    cases e with
    | normal=>exact absurd he (dW _ _)
    | _=>rfl
  case cond c a b =>
   split at he
   ·exact ih _ _ _ _ _ _ he
   ·exact ih _ _ _ _ _ _ he
   ·cases he
  case block id b =>
   split at he
   ·rename_i h1
    rw[ih _ _ _ _ _ _ h1];exact he
   ·rename_i dW
    rw[ih _ _ _ _ _ _ he]
    cases e with
    | exit i=>exact absurd he (dW _ _ _)
    | _=>rfl
  case loop b =>
   split at he
   ·rename_i h1
    rw[ih _ _ _ _ _ _ h1];exact ih _ _ _ _ _ _ he
   ·rename_i dW
    rw[ih _ _ _ _ _ _ he]
    cases e with
    | normal=>exact absurd he (dW _ _)
    | _=>rfl
  case region ops =>
   split at he
   ·rename_i h1
    rw[xM (kZ ih D) _ h1];exact he
   ·cases he
  case draw ops =>
   split at he
   ·rename_i h1
    rw[uH (kZ ih D) _ h1];exact he
   ·cases he
  case walk x it nx ok en X Y kl ops b=>exact GS (kZ ih D) ih he
theorem jB(D:cL){n m:Nat}(h:n≤m):pL (dT D n) (dT D m):=by
 induction h with
 | refl=>exact .refl _
 | step _ ih=>exact ih.trans (Sh D _)
open Classical in
noncomputable def ev(D:cL):xH:=fun c env h =>
 if hx:∃ x:Nat×Ex×Env×aA,dT D x.1 c env h=.ok x.2.1 x.2.2.1 x.2.2.2 then .ok hx.choose.2.1 hx.choose.2.2.1 hx.choose.2.2.2 else .fail
theorem fE{D:cL}{c:aM}{env:Env}{h:aA}{e:Ex}{bA:Env}{h':aA}:ev D c env h=.ok e bA h'↔∃ n,dT D n c env h=.ok e bA h':=by
 unfold ev
 constructor
 ·intro hs
  split at hs
  ·rename_i hx
   have:=hx.choose_spec
   exact⟨_,this.trans hs⟩
  ·cases hs
 ·rintro⟨n,hn⟩
  have hx:∃ x:Nat×Ex×Env×aA,dT D x.1 c env h=.ok x.2.1 x.2.2.1 x.2.2.2:=⟨⟨n,e,bA,h'⟩,hn⟩
  rw[dif_pos hx]
  have h1:=jB D (Nat.le_max_left n hx.choose.1) _ _ _ _ _ _ hn
  have h2:=jB D (Nat.le_max_right n hx.choose.1) _ _ _ _ _ _ hx.choose_spec
  rw[h1]at h2
  exact h2.symm
theorem Jy(D:cL)(n:Nat):pL (dT D n) (ev D):=fun _ _ _ _ _ _ h=>fE.2 ⟨n,h⟩
theorem xN{a b:Res}(h:∀e env h,a=.ok e env h↔b=.ok e env h):a=b:=by
 cases a with
 | fail=>cases b with
  | fail=>rfl
  | ok e env h0=>exact((h e env h0).2 rfl)
 | ok e env h0=>exact((h e env h0).1 rfl).symm
noncomputable def fc(D:cL):gO:=enter (ev D) D
theorem kX{D:cL}{df:aS}{args:List DV}{h:aA}{r:DV×aA}(hs:kY (ev D) df args h=some r):∃ n,kY (dT D n) df args h=some r:=by
 cases hv:ev D df.body (args++List.replicate (df.ntmps-args.length) bR) h with
 | fail=>unfold kY at hs;rw[hv]at hs;cases hs
 | ok e env h' =>
  obtain⟨n,hn⟩:=fE.1 hv
  refine⟨n,?_⟩
  unfold kY at hs ⊢
  rw[hv]at hs
  rw[hn]
  exact hs
theorem Az{D:cL}{df:aS}{rest:List DV}{id sz off len ety:Nat}{xs:List DV}{h:aA}{e:Nat}{cap:Option Nat}{l:List DV}(hs:qU (ev D) df rest id sz off len ety xs h e cap=some l) :
  ∃ n,qU (dT D n) df rest id sz off len ety xs h e cap=some l:=by
 unfold qU at hs
 cases hg:kY (ev D) df (.sl h.n sz off len::rest) {(h.set id .dead).push (.arr ety sz (xs++List.replicate e .unk) cap)with lim:=h.n} with
 | none=>rw[hg]at hs;simp[zL]at hs
 | some r =>
  obtain⟨n,hn⟩:=kX hg
  refine⟨n,?_⟩
  unfold qU
  rw[hn,←hg];exact hs
theorem Ho{D:cL}{df:aS}{rest:List DV}{id sz off len ety:Nat}{xs:List DV}{h:aA}{r:DV×aA}(hs:pE (ev D) df rest id sz off len ety xs h=some r) :
  ∃ n,pE (dT D n) df rest id sz off len ety xs h=some r:=by
 unfold pE at hs
 split at hs
 ·rename_i l hl
  split at hs
  ·rename_i oH
   obtain⟨n0,hn0⟩:=Az hl
   have many:∀es:List Nat,(es.all fun e=>match qU (ev D) df rest id sz off len ety xs h e (some (xs.length+e))with|some l'=>yK l l'|none=>false)=true →
     ∃ n,(es.all fun e=>match qU (dT D n) df rest id sz off len ety xs h e (some (xs.length+e))with|some l'=>yK l l'|none=>false)=true:=by
    intro es
    induction es with
    | nil=>intro _;exact⟨0,rfl⟩
    | cons e es ih =>
     intro ha
     simp only[List.all_cons,Bool.and_eq_true]at ha
     obtain⟨n1,h1⟩:=ih ha.2
     have h2:=ha.1
     split at h2
     ·rename_i l' Fl
      obtain⟨n2,h3⟩:=Az Fl
      refine⟨max n1 n2,?_⟩
      simp only[List.all_cons,Bool.and_eq_true]
      refine⟨by rw[qK (jB D (Nat.le_max_right n1 n2)) h3];exact h2,List.all_eq_true.2 fun e he=>?_⟩
      have:=List.all_eq_true.1 h1 e he
      split at this
      ·rename_i l2 EE
       rw[qK (jB D (Nat.le_max_left n1 n2)) EE];exact this
      ·cases this
     ·cases h2
   obtain⟨n1,GH⟩:=many _ oH
   refine⟨max n0 n1,?_⟩
   unfold pE
   rw[qK (jB D (Nat.le_max_left n0 n1)) hn0]
   simp only
   rw[if_pos]
   ·exact hs
   ·refine List.all_eq_true.2 fun e he=>?_
    have:=List.all_eq_true.1 GH e he
    split at this
    ·rename_i l2 EE
     rw[qK (jB D (Nat.le_max_right n0 n1)) EE];exact this
    ·cases this
  ·cases hs
 ·cases hs
theorem Lq{D:cL}{df:aS}{args:List DV}{h:aA}{r:DV×aA}(hs:gF (ev D) df args h=some r):∃ n,gF (dT D n) df args h=some r:=by
 unfold gF at hs
 split at hs
 ·rename_i hm
  obtain⟨n,hn⟩:=kX hs
  exact⟨n,by unfold gF;rw[hm];exact hn⟩
 ·rename_i hm
  split at hs
  ·rename_i v h' h1
   obtain⟨n,hn⟩:=kX h1
   exact⟨n,by unfold gF;rw[hm];simp only;rw[hn];exact hs⟩
  ·cases hs
 ·rename_i hm
  split at hs
  ·rename_i ds Er
   split at hs
   ·rename_i v h' h1
    obtain⟨n,hn⟩:=kX h1
    exact⟨n,by unfold gF;rw[hm];simp only;rw[Er];simp only;rw[hn];exact hs⟩
   ·cases hs
  ·cases hs
 ·rename_i hm
  split at hs
  ·rename_i id sz off len rest
   split at hs
   ·rename_i ety eG xs hg
    split at hs
    ·rename_i hc
     obtain⟨n,hn⟩:=Ho hs
     exact⟨n,by unfold gF;rw[hm];simp only;rw[hg];simp only;rw[if_pos hc];exact hn⟩
    ·cases hs
   ·rename_i dW
    obtain⟨n,hn⟩:=kX hs
    refine⟨n,?_⟩
    unfold gF
    rw[hm]
    simp only
    exact hn
  ·rename_i dW
   obtain⟨n,hn⟩:=kX hs
   refine⟨n,?_⟩
   unfold gF
   rw[hm]
   simp only
   exact hn
 ·rename_i hm
  split at hs
  ·rename_i as h1 ea
   split at hs
   ·rename_i ds Er
    split at hs
    ·rename_i v h' h2
     obtain⟨n,hn⟩:=kX h2
     exact⟨n,by unfold gF;rw[hm];simp only;rw[ea];simp only;rw[Er];simp only;rw[hn];exact hs⟩
    ·cases hs
   ·cases hs
  ·cases hs
theorem Gg{D:cL}{f:Nat}{args:List DV}{h:aA}{r:DV×aA}:fc D f args h=some r↔∃ n,Yz D n f args h=some r:=by
 constructor
 ·intro hs
  unfold fc at hs
  rw[wU]at hs
  split at hs
  ·rename_i hk hh
   exact⟨0,by unfold Yz;rw[wU,hh];exact hs⟩
  ·rename_i hh
   split at hs
   ·cases hs
   ·rename_i df hdf
    obtain⟨n,hn⟩:=Lq hs
    exact⟨n,by unfold Yz;rw[wU,hh,hdf];exact hn⟩
 ·rintro⟨n,hn⟩
  exact kZ (Jy D n) D f args h r hn
theorem Km(D:cL)(n:Nat):rN (enter (dT D n) D) (fc D):=kZ (Jy D n) D
theorem sA{D:cL}{o:DOp}{env:Env}{h:aA}{r:DV×aA}(hs:bO (fc D) o env h=some r):∃ n,bO (enter (dT D n) D) o env h=some r:=by
 cases o
 case call f args =>
  simp only[bO]at hs ⊢
  split at hs
  ·exact Gg.1 hs
  ·cases hs
 all_goals exact⟨0,hs⟩
theorem Sb{D:cL}{l:Nat}{o:DOp}{env:Env}{h:aA}{r:DV×aA}(hs:nH (fc D) l o env h=some r):∃ n,nH (enter (dT D n) D) l o env h=some r:=by
 unfold nH at hs
 split at hs
 ·rename_i v h' h1
  obtain⟨n,hn⟩:=sA h1
  exact⟨n,by unfold nH;rw[hn];exact hs⟩
 ·cases hs
theorem Kg{D:cL}{l q:Nat}{L:cU}{o:DOp}{env:Env}{h:aA}{r:DV×aA×cU}(hs:dD (fc D) l q L o env h=some r):∃ n,dD (enter (dT D n) D) l q L o env h=some r:=by
 unfold dD at hs
 split at hs
 ·rename_i id hp
  exact⟨0,by unfold dD;rw[hp];exact hs⟩
 ·rename_i hp
  split at hs
  ·rename_i hpo
   unfold mX at hs
   split at hs
   ·split at hs
    ·rename_i h1
     obtain⟨n,hn⟩:=sA h1
     exact⟨n,by unfold dD;rw[hp];simp only;rw[hpo];simp only[mX];rw[hn];exact hs⟩
    ·cases hs
   ·cases hs
  ·rename_i hpo
   split at hs
   ·rename_i v h' h1
    obtain⟨n,hn⟩:=Sb h1
    exact⟨n,by unfold dD;rw[hp];simp only;rw[hpo];simp only;rw[hn];exact hs⟩
   ·cases hs
theorem Qq{D:cL}:∀(ops:List aR) {env:Env} {h:aA} {r:Env×aA},fL (fc D) ops env h=some r→∃ n,fL (enter (dT D n) D) ops env h=some r:=by
 intro ops
 induction ops with
 | nil=>intro env h r hs;exact⟨0,hs⟩
 | cons o ops ih =>
  intro env h r hs
  simp only[fL]at hs
  split at hs
  ·rename_i hw
   split at hs
   ·rename_i v h' h1
    obtain⟨n1,k1⟩:=sA h1
    obtain⟨n2,k2⟩:=ih hs
    refine⟨max n1 n2,?_⟩
    simp only[fL,hw]
    rw[tB (kZ (jB D (Nat.le_max_left n1 n2)) D) k1]
    exact xM (kZ (jB D (Nat.le_max_right n1 n2)) D) _ k2
   ·cases hs
  ·rename_i hw
   obtain⟨n2,k2⟩:=ih hs
   exact⟨n2,by simp only[fL,hw];exact k2⟩
  ·cases hs
theorem Lg{D:cL}:∀(ops:List aR) {env:Env} {hs:List aA} {L:cU} {r:Env×aA},eC (fc D) ops env hs L=some r→∃ n,eC (enter (dT D n) D) ops env hs L=some r:=by
 intro ops
 induction ops with
 | nil=>intro env h L r hs;exact⟨0,hs⟩
 | cons o ops ih =>
  intro env hs L r he
  cases hs with
  | nil=>simp[eC]at he
  | cons h hs =>
   simp only[eC]at he
   split at he
   ·cases he
   ·rename_i hw
    split at he
    ·rename_i hk
     split at he
     ·rename_i rQ
      split at he
      ·rename_i h0 WX
       split at he
       ·rename_i v h1 cW
        obtain⟨n,hn⟩:=ih he
        exact⟨n,by simp only[eC,hw,hk,WX,cW,if_pos rQ];exact hn⟩
       ·cases he
      ·cases he
     ·cases he
    ·rename_i hk
     split at he
     ·rename_i v h' h1
      obtain⟨n1,k1⟩:=sA h1
      obtain⟨n2,k2⟩:=ih he
      refine⟨max n1 n2,?_⟩
      simp only[eC,hw,hk]
      rw[tB (kZ (jB D (Nat.le_max_left n1 n2)) D) k1]
      exact uH (kZ (jB D (Nat.le_max_right n1 n2)) D) _ k2
     ·cases he
    ·rename_i hk
     split at he
     ·rename_i h0 WX
      split at he
      ·rename_i v h' L' h1
       obtain⟨n1,k1⟩:=Kg h1
       obtain⟨n2,k2⟩:=ih he
       refine⟨max n1 n2,?_⟩
       simp only[eC,hw,hk,WX]
       rw[Ev (kZ (jB D (Nat.le_max_left n1 n2)) D) k1]
       exact uH (kZ (jB D (Nat.le_max_right n1 n2)) D) _ k2
      ·cases he
     ·cases he
   ·rename_i hw
    obtain⟨n2,k2⟩:=ih he
    exact⟨n2,by simp only[eC,hw];exact k2⟩
section
variable (D:cL) (env:Env) (h:aA)
theorem RQ:ev D .skip env h=.ok .normal env h:=fE.2 ⟨1,rfl⟩
theorem RS(id:Nat):ev D (.exit id) env h=.ok (.exit id) env h:=fE.2 ⟨1,rfl⟩
theorem XN:ev D .ret env h=.ok .ret env h:=fE.2 ⟨1,rfl⟩
theorem XM(a b:aM):ev D (.seq a b) env h=match ev D a env h with
  | .ok .normal env h=>ev D b env h
  | r=>r:=by
 apply xN
 intro e bA h'
 constructor
 ·intro hs
  obtain⟨n,hn⟩:=fE.1 hs
  cases n with
  | zero=>cases hn
  | succ n =>
   simp only[dT]at hn
   split at hn
   ·rename_i h1
    rw[fE.2 ⟨n,h1⟩]
    exact fE.2 ⟨n,hn⟩
   ·rename_i dW
    rw[fE.2 ⟨n,hn⟩]
    cases e with
    | normal=>exact absurd hn (dW _ _)
    | _=>rfl
 ·intro hs
  split at hs
  ·rename_i env1 h1 hv
   obtain⟨n1,k1⟩:=fE.1 hv
   obtain⟨n2,k2⟩:=fE.1 hs
   refine fE.2 ⟨max n1 n2+1,?_⟩
   simp only[dT]
   rw[jB D (Nat.le_max_left n1 n2) _ _ _ _ _ _ k1]
   exact jB D (Nat.le_max_right n1 n2) _ _ _ _ _ _ k2
  ·rename_i dW
   obtain⟨n1,k1⟩:=fE.1 hs
   refine fE.2 ⟨n1+1,?_⟩
   simp only[dT]
   rw[k1]
   cases e with
   | normal=>exact absurd hs (dW _ _)
   | _=>rfl
theorem RU(c:Opd)(a b:aM):ev D (.cond c a b) env h=match c.eval env with
  | .bool true=>ev D a env h
  | .bool false=>ev D b env h
  | _=>.fail:=by
 apply xN
 intro e bA h'
 constructor
 ·intro hs
  obtain⟨n,hn⟩:=fE.1 hs
  cases n with
  | zero=>cases hn
  | succ n =>
   simp only[dT]at hn
   split at hn
   ·rename_i hc;rw[hc];exact fE.2 ⟨n,hn⟩
   ·rename_i hc;rw[hc];exact fE.2 ⟨n,hn⟩
   ·cases hn
 ·intro hs
  split at hs
  ·rename_i hc
   obtain⟨n1,k1⟩:=fE.1 hs
   exact fE.2 ⟨n1+1,by simp only[dT,hc];exact k1⟩
  ·rename_i hc
   obtain⟨n1,k1⟩:=fE.1 hs
   exact fE.2 ⟨n1+1,by simp only[dT,hc];exact k1⟩
  ·cases hs
theorem LP(id:Nat)(b:aM):ev D (.block id b) env h=match ev D b env h with
  | .ok (.exit id') env h=>if id'=id then .ok .normal env h else .ok (.exit id') env h
  | r=>r:=by
 apply xN
 intro e bA h'
 constructor
 ·intro hs
  obtain⟨n,hn⟩:=fE.1 hs
  cases n with
  | zero=>cases hn
  | succ n =>
   simp only[dT]at hn
   split at hn
   ·rename_i h1
    rw[fE.2 ⟨n,h1⟩]
    exact hn
   ·rename_i dW
    rw[fE.2 ⟨n,hn⟩]
    cases e with
    | exit i=>exact absurd hn (dW _ _ _)
    | _=>rfl
 ·intro hs
  split at hs
  ·rename_i h1
   obtain⟨n1,k1⟩:=fE.1 h1
   exact fE.2 ⟨n1+1,by simp only[dT];rw[k1];exact hs⟩
  ·rename_i dW
   obtain⟨n1,k1⟩:=fE.1 hs
   refine fE.2 ⟨n1+1,?_⟩
   simp only[dT]
   rw[k1]
   cases e with
   | exit i=>exact absurd hs (dW _ _ _)
   | _=>rfl
theorem RR(b:aM):ev D (.loop b) env h=match ev D b env h with
  | .ok .normal env h=>ev D (.loop b) env h
  | r=>r:=by
 apply xN
 intro e bA h'
 constructor
 ·intro hs
  obtain⟨n,hn⟩:=fE.1 hs
  cases n with
  | zero=>cases hn
  | succ n =>
   simp only[dT]at hn
   split at hn
   ·rename_i h1
    rw[fE.2 ⟨n,h1⟩]
    exact fE.2 ⟨n,hn⟩
   ·rename_i dW
    rw[fE.2 ⟨n,hn⟩]
    cases e with
    | normal=>exact absurd hn (dW _ _)
    | _=>rfl
 ·intro hs
  split at hs
  ·rename_i env1 h1 hv
   obtain⟨n1,k1⟩:=fE.1 hv
   obtain⟨n2,k2⟩:=fE.1 hs
   refine fE.2 ⟨max n1 n2+1,?_⟩
   simp only[dT]
   rw[jB D (Nat.le_max_left n1 n2) _ _ _ _ _ _ k1]
   exact jB D (Nat.le_max_right n1 n2) _ _ _ _ _ _ k2
  ·rename_i dW
   obtain⟨n1,k1⟩:=fE.1 hs
   refine fE.2 ⟨n1+1,?_⟩
   simp only[dT]
   rw[k1]
   cases e with
   | normal=>exact absurd hs (dW _ _)
   | _=>rfl
theorem ES(ops:List aR):ev D (.region ops) env h=match fL (fc D) ops env h with
  | some (env,h)=>.ok .normal env h
  | none=>.fail:=by
 apply xN
 intro e bA h'
 constructor
 ·intro hs
  obtain⟨n,hn⟩:=fE.1 hs
  cases n with
  | zero=>cases hn
  | succ n =>
   simp only[dT]at hn
   split at hn
   ·rename_i h1
    rw[xM (Km D n) _ h1];exact hn
   ·cases hn
 ·intro hs
  split at hs
  ·rename_i h1
   obtain⟨n1,k1⟩:=Qq _ h1
   exact fE.2 ⟨n1+1,by simp only[dT];rw[k1];exact hs⟩
  ·cases hs
theorem RT(ops:List aR):ev D (.draw ops) env h=match eC (fc D) ops env [h] .start with
  | some (env,h)=>.ok .normal env h
  | none=>.fail:=by
 apply xN
 intro e bA h'
 constructor
 ·intro hs
  obtain⟨n,hn⟩:=fE.1 hs
  cases n with
  | zero=>cases hn
  | succ n =>
   simp only[dT]at hn
   split at hn
   ·rename_i h1
    rw[uH (Km D n) _ h1];exact hn
   ·cases hn
 ·intro hs
  split at hs
  ·rename_i h1
   obtain⟨n1,k1⟩:=Lg _ h1
   exact fE.2 ⟨n1+1,by simp only[dT];rw[k1];exact hs⟩
  ·cases hs
theorem Ya(f:Nat)(args:List DV):fc D f args h=match D.hook f with
  | some hk=>hk h args
  | none=>match D.fn f with
   | none=>none
   | some df=>gF (ev D) df args h:=wU _ _ _ _ _
end
end Go.Dm
