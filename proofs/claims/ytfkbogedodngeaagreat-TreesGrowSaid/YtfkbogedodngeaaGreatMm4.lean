/- A part of the proof. -/
import Derived.Test.YtfkbogedodngeaaGreatMm3
import Derived.RowKit3
import Derived.Lib.Overlaps
import Derived.Lib.Bytealg
import Derived.Below
import Derived.Sort.Row
import Derived.Sort.Grow
set_option linter.all false
namespace Go.Dm
structure Jc(P:Program)(D:bX):Prop where
 mixed:P.follows .mixedOrders=true
 comp:∀f df,D.fn f=some df→∃ fn,P.funcs[f]?=some fn∧aD P fn df.mode=some df
 hooks:∀f hk,D.hook f=some hk→∀args h d h' c vals,hk h args=some (d,h')→Rel h c→VRs c args vals→Hh P f vals.toArray h c h' d
 keep:wA D
section
variable {P:Program} {D:bX}
def wB(P:Program)(D:bX)(n:Nat):Prop :=
 ∀code dc h c env a e aU h' Q,bR P code=some dc→dB D n dc env h=.ok e aU h'→Rel h c→cA c env a→(∀a' w',St c h' aU a' w'→Q (Bi e) a' w')→code.wp P Q a c.w
def Ld(P:Program)(D:bX)(n:Nat):Prop :=
 ∀code dc h c env a e aU h' Q,bR P code=some dc→dB D n (.loop dc) env h=.ok e aU h'→Rel h c→cA c env a→(∀a' w',St c h' aU a' w'→Q (Bi e) a' w')→Code.rounds P code Q n a c.w
theorem Kv{c:Ctx}{args:List DV}{vals:List Value}(hv:VRs c args vals)(n:Nat) :
  cA c (args++List.replicate (n-args.length) bK) {tmps:=vals.toArray++Array.replicate (n-vals.toArray.size) Go.undef,defers:=[]}:=by
 have hl:=hv.1
 refine⟨by simp[hl],rfl,fun i hi=>?_⟩
 simp only[List.length_append,List.length_replicate]at hi
 by_cases h1:i<args.length
 ·have h2:i<vals.length:=by omega
  rw[List.getElem_append_left h1]
  have:=hv.2 i h1 h2
  simpa[Array.getElem?_append,h2]using this
 ·rw[List.getElem_append_right (by omega)]
  simp only[List.getElem_replicate]
  have h2:¬i<vals.length:=by omega
  have h3:i-vals.length<n-vals.length:=by omega
  have:(vals.toArray++Array.replicate (n-vals.toArray.size) Go.undef).getD i Go.undef=Go.undef:=by
   simp[Array.getElem?_append,h2,h3]
  rw[this]
  exact .undef
theorem oT{n : Nat}(hC : wB P D n){fn : Func}{body : Code}{df : aK}(hb : fn.body = some body)(MM : bR P body = some df.body)(LV : fn.results.toList.mapM (zR P) = some df.results)(hnt : df.ntmps = fn.ntmps)
    {f : Nat} (hf : P.funcs[f]? = some fn) {args : List DV} {vals : List Value} {h : aA} {c : Ctx} (hR : Rel h c) (hv : VRs c args vals) {d : DV} {h' : aA}
    (he : (match dB D n df.body (args ++ List.replicate (df.ntmps - args.length) bK) h with
          | .ok (.exit _) _ _ => none
          | .ok _ env h' => match aV h' env df.results with
            | some v => some (v, h')
            | none => none
          | .fail => none) = some (d, h')) : Calls P f vals.toArray c.w (rN h c h' d) := by
  have fin : ∀ e aU h1, e = Ex.normal ∨ e = Ex.ret → dB D n df.body (args ++ List.replicate (df.ntmps - args.length) bK) h = .ok e aU h1 → aV h1 aU df.results = some d → h1 = h' → Calls P f vals.toArray c.w (rN h c h' d) := by
    intro e aU h1 BW gJ hres e1
    subst e1
    refine calls_of_wp hf hb (hC body df.body h c _ _ e aU h1 _ MM gJ hR (by have := Kv hv df.ntmps; rw[hnt]at this ⊢; exact this) fun a' w' cW => ?_)
    obtain⟨ρ', k1, k2, k3⟩ := cW
    obtain⟨v, r1, r2⟩ := Hw (P := P) (fn := fn) LV k1 k3 hres
    have : a'.defers = [] ∧ ∃ v, (results fn a'.tmps).run P w' = .ok v w' ∧ rN h c h1 d (.returned v) w' := ⟨k3.defers, v, r1, v, rfl, ρ', k1, k2, r2⟩
    rcases BW with rfl | rfl
    · exact this
    · exact this
  split at he
  · cases he
  · rename_i e aU h1 cQ gJ
    split at he
    · rename_i v hres
      cases he
      refine fin e aU _ ?_ gJ hres rfl
      cases e with
      | normal => exact .inl rfl
      | exit id => exact absurd rfl (cQ id)
      | ret => exact .inr rfl
    · cases he
  · cases he
theorem Ti(hk : wA D){n : Nat}{df : aK}{args : List DV}{h h' : aA}{d : DV}(hl : h.lim ≤ h.n)
    (he : (match dB D n df.body (args ++ List.replicate (df.ntmps - args.length) bK) h with
          | .ok (.exit _) _ _ => none
          | .ok _ env h' => match aV h' env df.results with
            | some v => some (v, h')
            | none => none
          | .fail => none) = some (d, h')) : dT h h' := by
  split at he
  · cases he
  · rename_i h2
    split at he
    · cases he; exact Gn hk n _ _ _ _ _ _ hl h2
    · cases he
  · cases he
theorem lC {f : FuncId} {fn : Func} {body : Code} (hf : P.funcs[f]? = some fn) (hb : fn.body = some body) (hn : fn.name ≠ "runtime.NumGoroutine") (vals : Array Value) (w : World) : (callFunc f vals).run P w = .ok (.enter f vals) w := by
 simp[callFunc,hf,hb,hn]
theorem uP(G:Jc P D){n:Nat}(hC:wB P D n):iF P (enter (dB D n) D):=by
 intro f args h d h' c vals he hR hv
 unfold enter at he
 split at he
 ·rename_i hk pG;exact G.hooks f hk pG args h d h' c vals he hR hv
 ·split at he
  ·cases he
  ·rename_i df hdf
   obtain⟨fn,hf,OS⟩:=G.comp f df hdf
   unfold aD at OS
   split at OS
   ·rename_i body hb
    split at OS
    ·rename_i b rs MM LV
     split at OS
     ·rename_i Fw
      refine .inr ⟨f,vals.toArray,lC hf hb Fw _ _,?_⟩
      have hdfe:df={ntmps:=fn.ntmps,results:=rs,body:=b,mode:=df.mode}:=(Option.some.inj OS).symm
      have e1:df.body=b:=by rw[hdfe]
      have e2:df.results=rs:=by rw[hdfe]
      have e3:df.ntmps=fn.ntmps:=by rw[hdfe]
      simp only at he
      split at he
      ·exact oT hC hb (by rw[e1];exact MM) (by rw[e2];exact LV) e3 hf hR hv he
      ·split at he
       ·rename_i v1 h1 Kr
        cases he
        have:=oT hC hb (by rw[e1];exact MM) (by rw[e2];exact LV) e3 hf (hR.setLim (Nat.le_refl _)) hv Kr
        refine this.mono fun e w' hp=>?_
        obtain⟨v,e0,ρ',k1,k2,k3⟩:=hp
        have Fy:=Ti G.keep (Nat.le_refl _) Kr
        exact⟨v,e0,ρ',k1.setLim (Nat.le_trans hR.lim Fy.n),k2,k3⟩
       ·cases he
      ·split at he
       ·rename_i ds Ci
        split at he
        ·rename_i v1 h1 Kr
         split at he
         ·rename_i d1 Z1
          split at he
          ·rename_i IM
           cases he
           have:=oT hC hb (by rw[e1];exact MM) (by rw[e2];exact LV) e3 hf hR.lend (Ce hR Ci hv) Kr
           refine this.mono fun e w' hp=>?_
           obtain⟨v,e0,ρ',k1,k2,k3⟩:=hp
           exact⟨v,e0,Rt hR k1 k2 k3 Z1 IM⟩
          ·cases he
         ·cases he
        ·cases he
       ·cases he
      ·split at he
       ·rename_i id sz off len rest
        split at he
        ·rename_i ety dK xs Cz
         split at he
         ·rename_i bV
          obtain⟨hcond1,hcond2⟩:=bV
          subst hcond1
          split at he
          ·rename_i l hl
           split at he
           ·rename_i gB
            cases he
            have hv0:∃ v0 vr,vals=v0::vr:=by
             cases vals with
             | nil=>have:=hv.1;simp at this
             | cons v0 vr=>exact⟨v0,vr,rfl⟩
            obtain⟨v0,vr,rfl⟩:=hv0
            have hvh:VR c (.sl id sz off len) v0:=hv.2 0 (by simp) (by simp)
            obtain⟨e,cap,ρ1,hcase,k1,k2,k3⟩:=DM hR Cz hvh ((rest.map Ad).foldl (·+·) 0)
            have hscn:nZ h ety sz (match dB D n df.body ((.sl h.n sz off len::rest)++List.replicate (df.ntmps-(DV.sl h.n sz off len::rest).length) bK) {(h.set id .dead).push (.arr ety sz (xs++List.replicate e .unk) cap)with lim:=h.n} with
              | .ok (.exit _) _ _=>none
              | .ok _ env h'=>match aV h' env df.results with
               | some v=>some (v,h')
               | none=>none
              | .fail=>none)=some l:=by
             rcases hcase with⟨rfl,rfl⟩|⟨aZ,rfl⟩
             ·exact hl
             ·have:=List.all_eq_true.1 gB e (List.mem_range.2 aZ)
              split at this
              ·rename_i l' Vn
               rw[nN _ _ this];exact Vn
              ·cases this
            have Kr:∃ r hj,(match dB D n df.body ((.sl h.n sz off len::rest)++List.replicate (df.ntmps-(DV.sl h.n sz off len::rest).length) bK) {(h.set id .dead).push (.arr ety sz (xs++List.replicate e .unk) cap)with lim:=h.n} with
              | .ok (.exit _) _ _=>none
              | .ok _ env h'=>match aV h' env df.results with
               | some v=>some (v,h')
               | none=>none
              | .fail=>none)=some (r,hj):=by
             cases hx:(match dB D n df.body ((.sl h.n sz off len::rest)++List.replicate (df.ntmps-(DV.sl h.n sz off len::rest).length) bK) {(h.set id .dead).push (.arr ety sz (xs++List.replicate e .unk) cap)with lim:=h.n} with
              | .ok (.exit _) _ _=>none
              | .ok _ env h'=>match aV h' env df.results with
               | some v=>some (v,h')
               | none=>none
              | .fail=>none)with
             | none=>rw[hx]at hscn;cases hscn
             | some p=>exact⟨p.1,p.2,rfl⟩
            obtain⟨r,hj,Kr⟩:=Kr
            rw[Kr]at hscn
            have bE:h.n≤((h.set id .dead).push (.arr ety sz (xs++List.replicate e .unk) cap)).n:=Nat.le_succ _
            have GU:VRs (c.next c.w ρ1 ((h.set id .dead).push (.arr ety sz (xs++List.replicate e .unk) cap))) (.sl h.n sz off len::rest) (v0::vr):=by
             refine⟨hv.1,fun i h1 h2=>?_⟩
             cases i with
             | zero=>exact k3
             | succ i=>exact(hv.2 (i+1) h1 h2).mono k2
            have gQ:=oT hC hb (by rw[e1];exact MM) (by rw[e2];exact LV) e3 hf (k1.setLim bE) GU Kr
            have hkp:=Ti G.keep bE Kr
            refine gQ.mono fun e w' hp=>?_
            obtain⟨v,e0,ρj,q1,q2,q3⟩:=hp
            refine⟨v,e0,Q7 hR Cz q1 (k2.trans q2) (fun i hi=>?_) hscn q3⟩
            have:=hkp.get i hi
            rw[this]
            exact aN hi
           ·cases he
          ·cases he
         ·cases he
        ·exact oT hC hb (by rw[e1];exact MM) (by rw[e2];exact LV) e3 hf hR hv he
       ·exact oT hC hb (by rw[e1];exact MM) (by rw[e2];exact LV) e3 hf hR hv he
      ·split at he
       ·rename_i as h1 ea
        obtain⟨kF,kV⟩:=Fm (fun a b c=>Im a b c) hR hv ea
        split at he
        ·rename_i ds Ci
         split at he
         ·rename_i v1 h2 Kr
          split at he
          ·rename_i d1 Z1
           split at he
           ·rename_i IM
            cases he
            have:=oT hC hb (by rw[e1];exact MM) (by rw[e2];exact LV) e3 hf kF.1.lend (Ce kF.1 Ci kV) Kr
            refine this.mono fun e w' hp=>?_
            obtain⟨v,e0,ρ',k1,k2,k3⟩:=hp
            obtain⟨ρ2,p1,p2,p3⟩:=Rt kF.1 k1 k2 k3 Z1 IM
            exact⟨v,e0,ρ2,p1,kF.2.trans p2,p3⟩
           ·cases he
          ·cases he
         ·cases he
        ·cases he
       ·cases he
     ·cases OS
    ·cases OS
   ·cases OS
theorem nV(a b:aI):∃ x y,Fj a b=.seq x y:=by
 unfold Fj
 cases hw:tD a b with
 | none=>exact⟨a,b,rfl⟩
 | some r =>
  unfold tD at hw
  split at hw
  ·split at hw
   ·split at hw
    ·cases hw;exact⟨_,_,rfl⟩
    ·cases hw
   ·cases hw
  ·cases hw
theorem wZ{a b r:aI}(hw:tD a b=some r):∃ ds dl x it nx ok en X Y kl ops bb d1 d2 d3,a=.region ds∧ds.getLast?=some dl∧(dl.dst=some it∧dl.op=.range x∧dl.guard=none) ∧
  b=.block X (.loop (.seq (.region [d1,d2]) (.seq (.cond (.t ok) .skip (.exit X)) (.block Y (.seq (.region (d3::ops)) bb)))))∧(d1.dst=some nx∧d1.op=.next (.t it)∧d1.guard=none)∧(d2.dst=some ok∧d2.op=.extract (.t nx) 0∧d2.guard=none) ∧
  (d3.dst=some en∧d3.op=.entry (.t it)∧d3.guard=none)∧Ni bb=true∧(it≠nx∧it≠ok)∧r=.seq (.region ds.dropLast) (.walk x it nx ok en X Y kl ops bb):=by
 unfold tD at hw
 split at hw
 ·split at hw
  ·rename_i hl
   split at hw
   ·rename_i hc
    obtain⟨⟨rfl,rfl,rfl,rfl,rfl⟩,hb,cQ⟩:=hc
    cases hw
    exact⟨_,_,_,_,_,_,_,_,_,_,_,_,_,_,_,rfl,hl,⟨rfl,rfl,rfl⟩,rfl,⟨rfl,rfl,rfl⟩,⟨rfl,rfl,rfl⟩,⟨rfl,rfl,rfl⟩,hb,cQ,rfl⟩
   ·cases hw
  ·cases hw
 ·cases hw
theorem nB{code:Code}{ds:List aJ}(hc:bR P code=some (.region ds)):∃ id ops,code=.region id ops false∧ops.toList.mapM (cZ P ops.toList .write 0)=some ds:=by
 cases code<;>unfold bR at hc
 case region id ops draw =>
  cases draw with
  | false =>
   simp only[fD,Bool.false_eq_true,if_false]at hc
   split at hc
   ·rename_i h;cases hc;exact⟨id,ops,rfl,h⟩
   ·cases hc
  | true =>
   obtain⟨bT,bs,e,_⟩:=eK hc
   cases e
 case seq a b =>
  split at hc
  ·obtain⟨x,y,e⟩:=nV _ _
   rw[e]at hc;cases hc
  ·cases hc
 all_goals ((repeat' split at hc)<;>first|(cases hc;done)|(simp at hc;done))
theorem sQ{code:Code}{a b:aI}(hc:bR P code=some (.seq a b))(hb:Ni b=true):∃ x y,code=.seq x y∧bR P x=some a∧bR P y=some b:=by
 cases code<;>unfold bR at hc
 case seq x y =>
  split at hc
  ·rename_i da db h1 h2
   cases hw:tD da db with
   | none =>
    unfold Fj at hc
    rw[hw]at hc
    cases hc
    exact⟨x,y,rfl,h1,h2⟩
   | some r =>
    obtain⟨ds,dl,x0,it,nx,ok,en,X,Y,kl,ops,bb,d1,d2,d3,_,_,_,_,_,_,_,_,_,rfl⟩:=wZ hw
    unfold Fj at hc
    rw[hw]at hc
    cases hc
    cases hb
  ·cases hc
 case region id ops draw =>
  cases draw with
  | false =>
   simp only[fD,Bool.false_eq_true,if_false]at hc
   split at hc<;>cases hc
  | true =>
   obtain⟨bT,bs,e,_⟩:=eK hc
   cases e
 all_goals ((repeat' split at hc)<;>first|(cases hc;done)|(simp at hc;done))
theorem uS{code:Code}{X:Nat}{b:aI}(hc:bR P code=some (.block X b)):∃ y,code=.block X y∧bR P y=some b:=by
 cases code<;>unfold bR at hc
 case block id y =>
  split at hc
  ·rename_i h;cases hc;exact⟨y,rfl,h⟩
  ·cases hc
 case region id ops draw =>
  cases draw with
  | false =>
   simp only[fD,Bool.false_eq_true,if_false]at hc
   split at hc<;>cases hc
  | true =>
   obtain⟨bT,bs,e,_⟩:=eK hc
   cases e
 case seq a b =>
  split at hc
  ·obtain⟨x,y,e⟩:=nV _ _
   rw[e]at hc;cases hc
  ·cases hc
 all_goals ((repeat' split at hc)<;>first|(cases hc;done)|(simp at hc;done))
theorem Iw{code:Code}{b:aI}(hc:bR P code=some (.loop b)):∃ y,code=.loop y∧bR P y=some b:=by
 cases code<;>unfold bR at hc
 case loop y =>
  split at hc
  ·rename_i h;cases hc;exact⟨y,rfl,h⟩
  ·cases hc
 case region id ops draw =>
  cases draw with
  | false =>
   simp only[fD,Bool.false_eq_true,if_false]at hc
   split at hc<;>cases hc
  | true =>
   obtain⟨bT,bs,e,_⟩:=eK hc
   cases e
 case seq a b =>
  split at hc
  ·obtain⟨x,y,e⟩:=nV _ _
   rw[e]at hc;cases hc
  ·cases hc
 all_goals ((repeat' split at hc)<;>first|(cases hc;done)|(simp at hc;done))
theorem Iy{code:Code}{c:Opd}{a b:aI}(hc:bR P code=some (.cond c a b)):∃ o x y,code=.cond o x y∧opd o=some c∧bR P x=some a∧bR P y=some b:=by
 cases code<;>unfold bR at hc
 case cond o x y =>
  split at hc
  ·rename_i h1 h2 h3;cases hc;exact⟨o,x,y,rfl,h1,h2,h3⟩
  ·cases hc
 case region id ops draw =>
  cases draw with
  | false =>
   simp only[fD,Bool.false_eq_true,if_false]at hc
   split at hc<;>cases hc
  | true =>
   obtain⟨bT,bs,e,_⟩:=eK hc
   cases e
 case seq a b =>
  split at hc
  ·obtain⟨x,y,e⟩:=nV _ _
   rw[e]at hc;cases hc
  ·cases hc
 all_goals ((repeat' split at hc)<;>first|(cases hc;done)|(simp at hc;done))
theorem Iv{code:Code}(hc:bR P code=some .skip):code=.skip:=by
 cases code<;>unfold bR at hc
 case skip=>rfl
 case region id ops draw =>
  cases draw with
  | false =>
   simp only[fD,Bool.false_eq_true,if_false]at hc
   split at hc<;>cases hc
  | true =>
   obtain⟨bT,bs,e,_⟩:=eK hc
   cases e
 case seq a b =>
  split at hc
  ·obtain⟨x,y,e⟩:=nV _ _
   rw[e]at hc;cases hc
  ·cases hc
 all_goals ((repeat' split at hc)<;>first|(cases hc;done)|(simp at hc;done))
theorem Ix{code:Code}{X:Nat}(hc:bR P code=some (.exit X)):code=.exit X:=by
 cases code<;>unfold bR at hc
 case exit id=>cases hc;rfl
 case region id ops draw =>
  cases draw with
  | false =>
   simp only[fD,Bool.false_eq_true,if_false]at hc
   split at hc<;>cases hc
  | true =>
   obtain⟨bT,bs,e,_⟩:=eK hc
   cases e
 case seq a b =>
  split at hc
  ·obtain⟨x,y,e⟩:=nV _ _
   rw[e]at hc;cases hc
  ·cases hc
 all_goals ((repeat' split at hc)<;>first|(cases hc;done)|(simp at hc;done))
theorem Kd{α β:Type}{f:α→Option β}:∀{l:List α} {r:List β} {d:β},l.mapM f=some (r++[d])→∃ l' o,l=l'++[o]∧l'.mapM f=some r∧f o=some d:=by
 intro l
 induction l with
 | nil=>intro r d h;simp at h
 | cons x l ih =>
  intro r d h
  simp only[List.mapM_cons,Option.pure_def,Option.bind_eq_bind,Option.bind_eq_some_iff]at h
  obtain⟨y,hy,ys,vQ,h⟩:=h
  cases r with
  | nil =>
   simp only[List.nil_append,Option.some.injEq,List.cons.injEq]at h
   obtain⟨rfl,rfl⟩:=h
   have hl:=cB _ _ _ vQ
   have:l=[]:=List.length_eq_zero_iff.1 (by simpa using hl.symm)
   subst this
   exact⟨[],x,rfl,rfl,hy⟩
  | cons z r =>
   simp only[List.cons_append,Option.some.injEq,List.cons.injEq]at h
   obtain⟨rfl,rfl⟩:=h
   obtain⟨l',o,rfl,h1,h2⟩:=ih vQ
   exact⟨x::l',o,rfl,by simp[hy,h1],h2⟩
theorem Vv{call:gV}{run:aI→Env→aA→Res}(gQ:iF P call)
  (hcode:∀code dc h c env a e aU h' (Q:Exit→Act→World→Prop),bR P code=some dc→run dc env h=.ok e aU h'→Rel h c→cA c env a→(∀a' w',St c h' aU a' w'→Q (Bi e) a' w')→code.wp P Q a c.w)
  {x y:Code} {dx dy r1:aI} {rr:aI} (hx:bR P x=some dx) (hy:bR P y=some dy) (hw:tD dx dy=some rr) {h:aA} {c:Ctx} {env:Env} {a:Act} {e:Ex} {aU:Env} {h':aA} {Q:Exit→Act→World→Prop} {env1:Env} {h1:aA}
  {ds:List aJ} {xo:Opd} {it nx ok en X Y:Nat} {kl:List Nat} {ops:List aJ} {bb:aI} (SN:rr=.seq (.region ds) (.walk xo it nx ok en X Y kl ops bb)) (he1:eQ call ds env h=some (env1,h1))
  (he2:Dv call run it nx ok en X Y kl ops bb env1 h1 (rG h1 (xo.eval env1))=.ok e aU h') (hR:Rel h c) (hE:cA c env a) (hQ:∀a' w',St c h' aU a' w'→Q (Bi e) a' w'):(Code.seq x y).wp P Q a c.w:=by
 obtain⟨ds0,dl,x0,it0,nx0,ok0,en0,X0,Y0,kl0,ops0,bb0,d1,d2,d3,rfl,hlast,hdl,rfl,Z1,MK,ST,hnw,cQ,e0⟩:=wZ hw
 rw[SN]at e0
 simp only[aI.seq.injEq,aI.region.injEq,aI.walk.injEq]at e0
 obtain⟨rfl,rfl,rfl,rfl,rfl,rfl,rfl,rfl,rfl,rfl,rfl⟩:=e0
 obtain⟨idA,opsA,rfl,hmA⟩:=nB hx
 obtain⟨y1,rfl,hy1⟩:=uS hy
 obtain⟨y2,rfl,hy2⟩:=Iw hy1
 obtain⟨y3,y4,rfl,hy3,hy4⟩:=sQ hy2 rfl
 obtain⟨i2,ops2,rfl,BU⟩:=nB hy3
 obtain⟨y5,y6,rfl,hy5,hy6⟩:=sQ hy4 rfl
 obtain⟨okO,y7,y8,rfl,kok,hy7,hy8⟩:=Iy hy5
 rw[Iv hy7,Ix hy8]
 obtain⟨y9,rfl,hy9⟩:=uS hy6
 obtain⟨y10,v,rfl,hy10,hv⟩:=sQ hy9 hnw
 obtain⟨i3,ops3,rfl,hm3⟩:=nB hy10
 have hds0:ds0=ds0.dropLast++[dl]:=by
  have hne0:ds0≠[]:=by intro h0;subst h0;simp at hlast
  rw[List.getLast?_eq_some_getLast hne0]at hlast
  cases hlast
  exact(List.dropLast_concat_getLast hne0).symm
 rw[hds0]at hmA
 obtain⟨lA,oR,eA,mA,cR⟩:=Kd hmA
 obtain⟨o1,r2,e2,k1,hr2⟩:∃ o1 r2,ops2.toList=o1::r2∧cZ P ops2.toList .write 0 o1=some d1∧r2.mapM (cZ P ops2.toList .write 0)=some [d2]:=by
  generalize ops2.toList=l at BU
  have:∀l0:List Oper,l.mapM (cZ P l0 .write 0)=some [d1,d2]→∃ o1 r2,l=o1::r2∧cZ P l0 .write 0 o1=some d1∧r2.mapM (cZ P l0 .write 0)=some [d2]:=by
   intro l0 hm
   cases l with
   | nil=>simp at hm
   | cons o r =>
    simp only[List.mapM_cons,Option.pure_def,Option.bind_eq_bind,Option.bind_eq_some_iff]at hm
    obtain⟨y,hy,ys,vQ,h⟩:=hm
    cases h
    exact⟨o,r,rfl,hy,vQ⟩
  exact this l BU
 obtain⟨o2,rfl,k2⟩:∃ o2,r2=[o2]∧cZ P ops2.toList .write 0 o2=some d2:=by
  obtain⟨l',o,e,h1,h2⟩:=Kd (r:=[]) hr2
  have hl:=cB _ _ _ h1
  have:l'=[]:=List.length_eq_zero_iff.1 (by simpa using hl.symm)
  subst this
  exact⟨o,e,h2⟩
 obtain⟨o3,l3,e3,k3,k4⟩:∃ o3 l3,ops3.toList=o3::l3∧cZ P ops3.toList .write 0 o3=some d3∧l3.mapM (cZ P ops3.toList .write 0)=some ops:=by
  generalize ops3.toList=l at hm3
  have:∀l0:List Oper,l.mapM (cZ P l0 .write 0)=some (d3::ops)→∃ o3 l3,l=o3::l3∧cZ P l0 .write 0 o3=some d3∧l3.mapM (cZ P l0 .write 0)=some ops:=by
   intro l0 hm
   cases l with
   | nil=>simp at hm
   | cons o r =>
    simp only[List.mapM_cons,Option.pure_def,Option.bind_eq_bind,Option.bind_eq_some_iff]at hm
    obtain⟨y,hy,ys,vQ,h⟩:=hm
    cases h
    exact⟨o,r,rfl,hy,vQ⟩
  exact this l hm3
 obtain⟨g1,g2,g3,_,_⟩:=hJ cR
 rw[hdl.2.1]at g1
 rw[hdl.2.2]at g2
 rw[hdl.1]at g3
 obtain⟨tR,xR,kT,eT,hoR,huR,hxR⟩:=Ou g1
 refine wp_seq (mI ?_)
 rw[eA]at mA g2 ⊢
 refine wS gQ lA ds0.dropLast h c env a env1 h1 mA he1 hR hE fun a1 w1 cW=>?_
 obtain⟨ρ1,hR1,Tb,hE1⟩:=cW
 generalize rC:c.next w1 ρ1 h1=cc at hR1 Tb hE1
 have Vl:w1=cc.w:=by rw[←rC];rfl
 rw[Vl]
 obtain⟨m,es,hxm,hg,OE,gB⟩:=Jf he2
 have dF:=bG hxR hE1
 rw[hxm]at dF
 obtain⟨mb,dF,hρ⟩:=dF.map_inv
 obtain⟨es',ents,clk,jQ,zI,jR,nE⟩:=hR1.mapo hg hρ
 have Kr:(getObj mb).run P cc.w=.ok (.map ents clk) cc.w:=by simp[getObj,Sem.run,zI]
 refine wpList_step fun K hK=>?_
 rw[if_pos (fU g2 hE1 rfl)]
 have hexR:(execOp a1.eval oR).run P cc.w=.ok (.value (.pointer (some ⟨cc.w.heap.size,0,none⟩))) {cc.w with heap:=cc.w.heap.push (.mapIter (some mb) clk #[] clk)}:=by
  simp[execOp,hoR,Instr.range,run_underlying huR,dF,Kr]
 unfold Oper.wp
 rw[hexR]
 refine hK _ _ (wpList_nil ?_)
 have hS:=hR1.shut hg hρ
 have hmlt:=cY hg
 generalize MN:({cc with E:=fun b=>cc.E b∨b=mb}:Ctx)=c1 at hS
 have hc1w:c1.w=cc.w:=by rw[←MN]
 have hbi:∀b,c1.E b→b≠cc.w.heap.size:=fun b hb=>by have:=(hS.pend b hb).1;rw[hc1w]at this;omega
 obtain⟨hA,hleA⟩:=hS.early (w':={cc.w with heap:=cc.w.heap.push (.mapIter (some mb) clk #[] clk)}) (by simp[hc1w]) (fun k hk=>by
  rw[hc1w]at hk ⊢
  simp only[Array.getElem?_push]
  rw[if_neg (by omega)]) (by rw[hc1w];exact .push rfl trivial rfl rfl)
 obtain⟨hB,hleB⟩:=hA.nameE cc.w.heap.size
 have oK:=hleA.trans hleB
 have hn1:(h1.set m .dead).n=h1.n:=rfl
 generalize hC3:(⟨{cc.w with heap:=cc.w.heap.push (.mapIter (some mb) clk #[] clk)},fun i=>if i=(h1.set m .dead).n then some (cc.w.heap.size,0)else c1.ρ i,fun b=>c1.O b∨b=c1.w.heap.size,c1.X,fun b=>c1.E b∨b=c1.w.heap.size,c1.τ⟩:Ctx)=C3 at hB oK
 have hC3w:C3.w={cc.w with heap:=cc.w.heap.push (.mapIter (some mb) clk #[] clk)}:=by rw[←hC3]
 have hC3E:C3.E=fun b=>c1.E b∨b=cc.w.heap.size:=by rw[←hC3,←hc1w]
 have hC3nm:C3.ρ h1.n=some (cc.w.heap.size,0):=by rw[←hC3];exact if_pos rfl
 have I:nG c1 mb cc.w.heap.size clk h1.n (qT h1 m) C3 #[]:=by
  refine⟨hB,⟨oK.rho,oK.size,oK.frame,oK.own,oK.shape,oK.X,fun b hb he=>⟨he,(oK.pend b hb (by rw[hC3E];exact .inl he)).2⟩,oK.quiet,oK.tok⟩,hC3E,by rw[←hC3],?_,hC3nm⟩
  rw[hC3w];simp
 have hE3:cA C3 (env1.set it (.ptr h1.n 0 0 0)) (a1.put oR.dst (.pointer (some ⟨cc.w.heap.size,0,none⟩))):=by
  have h0:cA C3 env1 a1:=⟨hE1.size,hE1.defers,fun i hi=>by
   have:=(hE1.val i hi).setE (fun b=>cc.E b∨b=mb)
   rw[MN]at this
   exact this.mono oK⟩
  have hp:VR C3 (.ptr h1.n 0 0 0) (.pointer (some ⟨cc.w.heap.size,0,none⟩)):=by
   have:=VR.ptr (sz:=0) (idx:=0) (off:=0) hC3nm
   simpa using this
  rw[←g3]
  exact h0.put hp (some it)
 rw[show({cc.w with heap:=cc.w.heap.push (.mapIter (some mb) clk #[] clk)}:World)=C3.w from hC3w.symm]
 show(Code.block X _).wp P Q _ C3.w
 refine wp_block (wp_loop_rounds (ents.size+1) ?_)
 have bY:es'.length=ents.size:=by simpa using jR.1
 have hmap:((List.range ents.size).map fun j=>es'.getD j (.unk,.unk))=es':=by
  apply List.ext_getElem
  ·simp[bY]
  ·intro i h1 h2;simp at h1;simp[h2]
 have hc1E:c1.E mb:=by rw[←MN];exact .inr rfl
 have hwi0:=OE
 unfold nX at OE
 refine Mr (Fin:=fun e1 envx Hi=>e1=e∧∃ e2 env2 h2,sR kl m es env1 h1 (.ok e1 envx Hi)=.ok e2 env2 h2∧aU=env2∧Df HE h'.objs h2.objs=true) gQ (fun h c env a e aU h' Q hr hR hE hQ=>hcode v bb h c env a e aU h' Q hv hr hR hE hQ) e2 e3 k1 Z1 k2 MK k3 ST k4 kok cQ hbi hc1E (ents:=ents) (by rw[hc1w];exact zI) nE (es':=es') ?_ ?_ ents.size (List.range ents.size) (by simp) List.nodup_range (fun j hj=>List.mem_range.1 hj) (qT h1 m) C3 _ _ #[] I hE3 (fun j hj=>by simp[hj]) ?_
 ·refine⟨jR.1,fun i e1 m1 h3 h4=>?_⟩
  have:=jR.2 i e1 m1 h3 h4
  have q1:=this.1.setE (fun b=>cc.E b∨b=mb)
  have q2:=this.2.setE (fun b=>cc.E b∨b=mb)
  rw[MN]at q1 q2
  exact⟨q1,q2⟩
 ·rintro e1 envx Hi C ax seen ⟨rfl,e2',env2,h2,vS,L8,hz⟩ IC hEC
  obtain⟨_,_,hh',_⟩:∃ e3 env3 h3,sR kl m es env1 h1 (.ok e3 env3 h3)=.ok e1 aU h':=by
   cases BS:rounds call run it nx ok en X Y h1.n ops bb es (env1.set it (.ptr h1.n 0 0 0)) (qT h1 m)with
   | fail=>rw[BS]at OE;cases OE
   | ok e3 env3 h3=>rw[BS]at OE;exact⟨e3,env3,h3,OE⟩
  rename_i hcl'
  obtain⟨_,_,rfl,_,_,_⟩:=xV hcl'
  have cW:=Ul hR1 hg hρ jQ zI nE jR hE1 (by rw[MN];exact IC) hEC vS L8 (by rfl) (by rfl) hz
  rw[←rC]at cW
  exact hQ _ _ (cW.trans (by rw[rC];exact Tb))
 ·intro l hl
  rw[hmap]at hl
  have hp:=gB l (V2 (hl.trans jQ.symm))
  unfold nX at hp
  cases BS:rounds call run it nx ok en X Y h1.n ops bb l (env1.set it (.ptr h1.n 0 0 0)) (qT h1 m)with
  | fail=>rw[BS]at hp;simp[sR,AG]at hp
  | ok e3 env3 h3 =>
   rw[BS]at hp
   cases vS:sR kl m es env1 h1 (.ok e3 env3 h3)with
   | fail=>rw[vS]at hp;simp[AG]at hp
   | ok e4 env4 h4 =>
    rw[vS]at hp
    simp only[AG,Bool.and_eq_true,decide_eq_true_eq]at hp
    obtain⟨q1,_⟩:=xV vS
    exact⟨e3,env3,h3,rfl,by rw[hp.1,q1],e4,env4,h4,vS,nN _ _ hp.2.1,hp.2.2⟩
theorem Iz(G:Jc P D):∀n m,m≤n→wB P D m∧Ld P D m:=by
 intro n
 induction n with
 | zero =>
  intro m hm
  rw[Nat.le_zero.1 hm]
  refine⟨fun code dc h c env a e aU h' Q _ he=>?_,fun code dc h c env a e aU h' Q _ he=>?_⟩
  ·cases he
  ·cases he
 | succ n ih =>
  intro m hm
  rcases Nat.lt_or_ge m (n+1)with aZ|Y9
  ·exact ih m (by omega)
  rw[Nat.le_antisymm hm Y9]
  obtain⟨iC,iL⟩:=ih n (Nat.le_refl _)
  have gQ:=uP G iC
  have Fy:=pZ (run:=dB D n) G.keep (Gn G.keep n)
  refine⟨?_,?_⟩
  ·intro code dc h c env a e aU h' Q rC he hR hE hQ
   unfold bR at rC
   split at rC
   ·cases rC
    simp only[dB]at he
    cases he
    exact wp_skip (hQ _ _ ⟨c.ρ,by rw[hR.same];exact⟨hR,.refl c,hE⟩⟩)
   ·rename_i x y
    split at rC
    ·rename_i _ _ dx dy hx hy
     cases rC
     cases hw:tD dx dy with
     | some r =>
      obtain⟨ds,dl,x0,it,nx,ok,en,X,Y,kl,ops,bb,d1,d2,d3,_,_,_,_,_,_,_,_,_,hr⟩:=wZ hw
      unfold Fj at he
      rw[hw,hr]at he
      simp only[Option.getD_some,dB]at he
      cases n with
      | zero=>simp only[dB]at he;cases he
      | succ k =>
       simp only[dB]at he
       split at he
       ·rename_i env1 h1 h2
        split at h2
        ·rename_i h3
         cases h2
         obtain⟨jC,jL⟩:=ih k (Nat.le_succ _)
         exact Vv (r1:=dx) (uP G jC) jC hx hy hw hr h3 he hR hE hQ
        ·cases h2
       ·rename_i cQ
        split at he
        ·rename_i h3;exact absurd (by rw[h3]) (cQ _ _)
        ·cases he
     | none =>
     unfold Fj at he
     rw[hw]at he
     simp only[Option.getD_none,dB]at he
     refine wp_seq ?_
     split at he
     ·rename_i env1 h1 h2
      refine iC x dx h c env a .normal env1 h1 _ hx h2 hR hE fun a' w' cW=>?_
      obtain⟨ρ',k1,k2,k3⟩:=cW
      show y.wp P Q a' w'
      exact iC y dy h1 (c.next w' ρ' h1) env1 a' e aU h' Q hy he k1 k3 fun a2 w2 Fs=>hQ _ _ (Fs.trans k2)
     ·rename_i cQ
      refine iC x dx h c env a e aU h' _ hx he hR hE fun a' w' cW=>?_
      have:=hQ a' w' cW
      cases e with
      | normal=>exact absurd he (cQ aU h')
      | exit id=>exact this
      | ret=>exact this
    ·cases rC
   ·rename_i cd x y
    split at rC
    ·rename_i _ _ _ cd' dx dy h1 h2 h3
     cases rC
     simp only[dB]at he
     have hv:=bG h1 hE
     split at he
     ·rename_i ML
      rw[ML]at hv
      exact wp_cond_true hv.bool_inv (iC x dx h c env a e aU h' Q h2 he hR hE hQ)
     ·rename_i ML
      rw[ML]at hv
      exact wp_cond_false hv.bool_inv (iC y dy h c env a e aU h' Q h3 he hR hE hQ)
     ·cases he
    ·cases rC
   ·rename_i id b
    split at rC
    ·rename_i _ db hb
     cases rC
     simp only[dB]at he
     refine wp_block ?_
     split at he
     ·rename_i id' env1 h1 h2
      split at he
      ·rename_i eE
       cases he
       exact iC b db h c env a (.exit id') _ _ _ hb h2 hR hE fun a' w' cW=>by
        show Exit.inBlock id Q (.exit id') a' w'
        simp only[Exit.inBlock,eE,if_true]
        exact hQ a' w' cW
      ·rename_i eE
       cases he
       exact iC b db h c env a (.exit id') _ _ _ hb h2 hR hE fun a' w' cW=>by
        show Exit.inBlock id Q (.exit id') a' w'
        simp only[Exit.inBlock,eE,if_false]
        exact hQ a' w' cW
     ·rename_i cQ
      refine iC b db h c env a e aU h' _ hb he hR hE fun a' w' cW=>?_
      have:=hQ a' w' cW
      cases e with
      | normal=>exact this
      | exit id'=>exact absurd he (cQ id' aU h')
      | ret=>exact this
    ·cases rC
   ·rename_i b
    split at rC
    ·rename_i _ db hb
     cases rC
     refine wp_loop_rounds (n+1) ?_
     rw[rounds_succ]
     simp only[dB]at he
     split at he
     ·rename_i env1 h1 h2
      refine iC b db h c env a .normal env1 h1 _ hb h2 hR hE fun a' w' cW=>?_
      obtain⟨ρ',k1,k2,k3⟩:=cW
      show Code.rounds P b Q n a' w'
      exact iL b db h1 (c.next w' ρ' h1) env1 a' e aU h' Q hb he k1 k3 fun a2 w2 Fs=>hQ _ _ (Fs.trans k2)
     ·rename_i cQ
      refine iC b db h c env a e aU h' _ hb he hR hE fun a' w' cW=>?_
      have:=hQ a' w' cW
      cases e with
      | normal=>exact absurd he (cQ aU h')
      | exit id=>exact this
      | ret=>exact this
    ·cases rC
   ·cases rC
    simp only[dB]at he
    cases he
    exact wp_exit (hQ _ _ ⟨c.ρ,by rw[hR.same];exact⟨hR,.refl c,hE⟩⟩)
   ·cases rC
    simp only[dB]at he
    cases he
    exact wp_ret (hQ _ _ ⟨c.ρ,by rw[hR.same];exact⟨hR,.refl c,hE⟩⟩)
   ·rename_i id ops draw
    cases draw with
    | false =>
     simp only[fD,Bool.false_eq_true,if_false]at rC
     split at rC
     ·rename_i ds Ci
      cases rC
      simp only[dB]at he
      split at he
      ·rename_i env1 h1 gJ
       cases he
       exact wp_region_list (by
        have:=vL gQ (ops:=ops.toList) (Q:=Q) ops.toList ds h c env a _ _ Ci gJ hR hE hQ
        simpa using this)
      ·cases he
     ·cases rC
    | true =>
     have hdc:∃ ds,dc=.draw ds:=by
      obtain⟨bT,bs,e,_⟩:=eK rC
      exact⟨_,e⟩
     obtain⟨ds,rfl⟩:=hdc
     simp only[dB]at he
     split at he
     ·rename_i env1 h1 gJ
      cases he
      exact B5 G.mixed rC Fy gQ gJ hR hE hQ
     ·cases he
   ·cases rC
  ·intro code dc h c env a e aU h' Q rC he hR hE hQ
   rw[rounds_succ]
   simp only[dB]at he
   split at he
   ·rename_i env1 h1 h2
    refine iC code dc h c env a .normal env1 h1 _ rC h2 hR hE fun a' w' cW=>?_
    obtain⟨ρ',k1,k2,k3⟩:=cW
    show Code.rounds P code Q n a' w'
    exact iL code dc h1 (c.next w' ρ' h1) env1 a' e aU h' Q rC he k1 k3 fun a2 w2 Fs=>hQ _ _ (Fs.trans k2)
   ·rename_i cQ
    refine iC code dc h c env a e aU h' _ rC he hR hE fun a' w' cW=>?_
    have:=hQ a' w' cW
    cases e with
    | normal=>exact absurd he (cQ aU h')
    | exit id=>exact this
    | ret=>exact this
theorem Gv(G:Jc P D)(n:Nat):wB P D n∧Ld P D n:=Iz G n n (Nat.le_refl _)
theorem Gx(G:Jc P D)(n:Nat):iF P (Uq D n):=uP G (Gv G n).1
end
end Go.Dm
/-
Part 28 of "Dm": a call of a function vC arguments from outside; the table of the functions.
-/
namespace Go.Dm
open Go.RowKit
def iH:aA:={objs:=[],n:=0,lim:=0}
def Ir(w:World)(τ:Nat→Value:=fun _=>undef):Ctx:=⟨w,fun _=>none,fun _=>False,fun _=>False,fun _=>False,τ⟩
theorem Ba(id:Nat):iH.get id=none:=by simp[aA.get,iH]
def Vi(w:World):Prop:=∀b v,Oi=some (b,v)→b<w.heap.size∧w.cell? ⟨b,0,none⟩=some v
theorem WC(w:World)(hg:Vi w)(τ:Nat→Value:=fun _=>undef):Rel iH (Ir w τ) :=
 ⟨rfl,Nat.le_refl _,fun id h=>absurd rfl h,fun id o h=>(by rw[Ba]at h;cases h),fun i j oi oj b x y hi=>(by rw[Ba]at hi;cases hi),fun b=>⟨fun h=>h.elim,fun h=>by
  rcases h with⟨id,o,x,hg,_⟩|h
  ·rw[Ba]at hg;cases hg
  ·exact h.elim⟩,fun b h=>h.elim,fun b h=>h.elim,fun b h=>h.elim,fun b v hv=>⟨(hg b v hv).1,fun h=>h,(hg b v hv).2⟩⟩
def IK(W w':World):Prop:=W.keptBut w' (fun _=>False)∧(∀a,a.block<W.heap.size→w'.frozen? a=W.frozen? a)∧W.heap.size≤w'.heap.size
theorem IK.frame{W w':World}(h:IK W w')(may:MemPlace→Prop):W.keptBut w' may:=World.keptBut_mono (fun _ f=>f.elim) h.1
theorem Tg{w:World}{τ:Nat→Value}{c:Ctx}(h:bL (Ir w τ) c):IK w c.w:=by
 refine⟨⟨h.quiet.os,h.quiet.out,fun i hi=>?_⟩,h.quiet.froz,h.size⟩
 have:=(World.keptBut_refl w (fun _=>False)).2.2 i hi
 rw[h.frame i hi (fun h=>h)]
 exact this
open Go.ChangeShapes Go.WideShapes in
theorem V0{H:Type}{enc:TypeId×Value→H}{P:Program}{f:Func}{s:ChangeSpec}{nF fresh handsOn again:Bool}{W W':World}{args:Array Value}{v:Value}{ds gs:List (DataW H)}{before pa pv:List MemPlace}
  (hW:DataW.Whole enc P f.params.toList s.vars nF W args.toList ds gs before)
  (hres:∀(b:Nat) (sp:Nat→Bool) (hd:Bool),DataW.TrodAll enc P W' b sp hd f.resultTypes.toList (v.resultList f.resultTypes.size) (s.fn H (ds++gs)).results [])
  (hargs:∀sp:Nat→Bool,(∀p∈before,sp p.block=true)→DataW.TrodAll enc P W' 0 sp true f.params.toList args.toList (s.fn H (ds++gs)).args pa)
  (hvars:∀sp:Nat→Bool,(∀p∈before,sp p.block=true)→DataW.TrodVars enc P W' sp s.vars (s.fn H (ds++gs)).vars pv)
  (Y4:before=pa++pv) (hk:W.keptBut W' (·∈before)) (hfz:∀a,a.block<W.heap.size→W'.frozen? a=W.frozen? a)
  (hok:∀(j:Nat) (t:TypeId) (r:Value),f.resultTypes[j]?=some t→(v.resultList f.resultTypes.size)[j]?=some r→Value.okWide P W' .any 0 t r) :
  s.post enc P f nF fresh handsOn again W args v W':=by
 have hold:∀p∈before,(fun b=>decide (b<W.heap.size)) p.block=true:=fun p hp=>by simpa using hW.lt p hp
 have aZ:=hW.lt
 refine⟨ds,gs,before,[],pa,pv,hW,hres _ _ _,hargs _ hold,hvars _ hold,World.keptBut_mono (fun p hp=>⟨hp,?_⟩) hk,fun _=>?_⟩
 ·rw[Y4,List.mem_append]at hp
  exact Or.inr hp
 ·obtain⟨_,_,_,_,_,hz,hn⟩:=hW
  refine⟨hok,_,_,([]++pa)++pv,⟨[]++pa,pv,trodAll_append (hargs _ (fun _ _=>rfl)) (hres _ _ _),hvars _ (fun _ _=>rfl),rfl,?_,?_⟩,?_⟩
  ·intro b off hp
   rw[hfz _ (aZ (.cell b off) (by rw[Y4];simpa using hp))]
   exact hz b off (by rw[Y4];simpa using hp)
  ·intro ha
   have:=hn ha
   rw[Y4]at this
   simpa using this
  ·intro p hp _
   rw[Y4]
   simpa using hp
def Ct(P:Program)(tab:List (Nat×aK)):Prop:=∀x,x∈tab→∃ fn,P.funcs[x.1]?=some fn∧aD P fn x.2.mode=some x.2
theorem Ct.nil{P:Program}:Ct P []:=fun x hx=>by cases hx
theorem Ct.cons{P:Program}{f:Nat}{df:aK}{fn:Func}{tab:List (Nat×aK)}(h1:P.funcs[f]?=some fn)(h2:aD P fn df.mode=some df)(h:Ct P tab):Ct P ((f,df)::tab):=fun x hx=>by
 rcases List.mem_cons.1 hx with rfl|hx
 ·exact⟨fn,h1,h2⟩
 ·exact h x hx
def K9:List (Nat×aK)→Nat→Option aK
 | [],_=>none
 | (k,d)::r,f=>if Nat.beq k f then some d else K9 r f
theorem X3{tab:List (Nat×aK)}{f:Nat}{d:aK}(h:K9 tab f=some d):(f,d)∈tab:=by
 induction tab with
 | nil=>cases h
 | cons x r ih =>
  obtain⟨k,d'⟩:=x
  simp only[K9]at h
  split at h
  ·rename_i he
   cases h
   rw[Nat.eq_of_beq_eq_true he]
   exact List.mem_cons_self ..
  ·exact List.mem_cons_of_mem _ (ih h)
end Go.Dm
/-
Part 30 of "Dm": what stands in the place of functions vC a body; tables with hooks.
-/
namespace Go.Dm
def pD(P:Program)(f:Nat)(hk:qM):Prop :=
 (∀args h d h' c vals,hk h args=some (d,h')→Rel h c→VRs c args vals→Hh P f vals.toArray h c h' d)∧∀h args v h',h.lim≤h.n→hk h args=some (v,h')→dT h h'
def dM:qM:=fun h args =>
 match args with
 | [.sl i1 s1 _ _,.sl i2 s2 _ _] =>
  match h.get i1,h.get i2 with
  | some (.arr _ z1 _ _),some (.arr _ z2 xs _)=>if i1≠i2∧s1=z1∧s2=z2∧xs.length≠0 then some (.bool false,h)else none
  | _,_=>none
 | _=>none
theorem pS {P : Program} {f : Nat} {fn : Func} {tS tR e : TypeId} (hf : P.funcs[f]? = some fn) (Fw : (fn.name == "runtime.NumGoroutine") = false) (hb : fn.body.isNone = true) (hn : Extern.findNext fn = none)
  (he:Extern.find fn=some (Extern.SlicesOverlaps.overlaps #[tS,tS] #[tR])) (ht:P.underlying tS=some (.slice e)) (hi:(P.info? e).isSome=true):pD P f dM:=by
 obtain⟨i,hi⟩:=Option.isSome_iff_exists.1 hi
 refine⟨fun args h d h' c vals hs hR hv=>?_,fun h args v h' _ hs=>?_⟩
 ·unfold dM at hs
  split at hs
  ·rename_i i1 s1 o1 l1 i2 s2 o2 l2
   split at hs
   ·rename_i e1 z1 x1 c1 e2 z2 x2 c2 g1 g2
    split at hs
    ·rename_i bV
     obtain⟨cQ,hs1,OI,hx⟩:=bV
     cases hs
     have hl:=hv.1
     obtain⟨v1,v2,rfl⟩:∃ v1 v2,vals=[v1,v2]:=by
      cases vals with
      | nil=>simp at hl
      | cons a r=>cases r with
       | nil=>simp at hl
       | cons b r=>cases r with
        | nil=>exact⟨a,b,rfl⟩
        | cons c r=>simp at hl
     have w1:VR c (.sl i1 s1 o1 l1) v1:=hv.2 0 (by simp) (by simp)
     have w2:VR c (.sl i2 s2 o2 l2) v2:=hv.2 1 (by simp) (by simp)
     obtain⟨b1,base1,cap1,co1,n1,ty1,e1',r1,_⟩:=w1.sl_inv
     obtain⟨b2,base2,cap2,co2,n2,ty2,e2',r2,_⟩:=w2.sl_inv
     obtain⟨cur1,m1,p1,p2,p3,p4,p5,p6⟩:=hR.arr g1 r1
     obtain⟨cur2,m2,q1,q2,q3,q4,q5,q6⟩:=hR.arr g2 r2
     have hbne:b1≠b2:=fun eb=>cQ (hR.inj i1 i2 _ _ b1 base1 base2 g1 g2 rfl rfl r1 (eb ▸ r2))
     have Pm:∀a:Addr,a.block=b1→c.w.frozen? a=false:=fun a ha=>qB (ob:=.cells cur1 e1 (0,0)) (by rw[ha];exact p1) rfl
     refine .inl ⟨.bool false,c.w,?_,kG.pure hR (.bool false)⟩
     rw[run_callFunc_extern hf Fw hb hn he]
     have gJ:=Lib.run_overlaps_apart (P:=P) c.w tS tR e ht i.size (fun w=>by simp[sizeOf,typeInfo,hi]) ⟨b1,co1,none⟩ ⟨b2,co2,none⟩ l1 cap1 l2 cap2 hbne e1 e2 cur1.size cur2.size (dL p1) (dL q1)
      (by
       have:0<m2*z2:=Nat.mul_pos (by omega) q2
       omega) (Pm _ rfl) (Pm _ rfl)
     rw[e1',e2',gJ]
     rfl
    ·cases hs
   ·cases hs
  ·cases hs
 ·unfold dM at hs
  split at hs
  ·split at hs
   ·split at hs
    ·cases hs;exact .refl _
    ·cases hs
   ·cases hs
  ·cases hs
def qC(P:Program)(hooks:List (Nat×qM)):Prop:=∀x,x∈hooks→pD P x.1 x.2
theorem qC.nil{P:Program}:qC P []:=fun x hx=>by cases hx
theorem qC.cons{P:Program}{f:Nat}{hk:qM}{hooks:List (Nat×qM)}(h1:pD P f hk)(h:qC P hooks):qC P ((f,hk)::hooks):=fun x hx=>by
 rcases List.mem_cons.1 hx with rfl|hx
 ·exact h1
 ·exact h x hx
def L3:List (Nat×qM)→Nat→Option qM
 | [],_=>none
 | (k,d)::r,f=>if Nat.beq k f then some d else L3 r f
theorem Ke{hooks:List (Nat×qM)}{f:Nat}{d:qM}(h:L3 hooks f=some d):(f,d)∈hooks:=by
 induction hooks with
 | nil=>cases h
 | cons x r ih =>
  obtain⟨k,d'⟩:=x
  simp only[L3]at h
  split at h
  ·rename_i he
   cases h
   rw[Nat.eq_of_beq_eq_true he]
   exact List.mem_cons_self ..
  ·exact List.mem_cons_of_mem _ (ih h)
def Nv(tab:List (Nat×aK))(hooks:List (Nat×qM)):bX:={fn:=K9 tab,hook:=L3 hooks}
theorem zD{P:Program}{tab:List (Nat×aK)}{hooks:List (Nat×qM)}(hm:P.follows .mixedOrders=true)(ht:Ct P tab)(hh:qC P hooks):Jc P (Nv tab hooks) where
 mixed:=hm
 comp:=fun f df h=>ht (f,df) (X3 h)
 hooks:=fun f hk h=>(hh (f,hk) (Ke h)).1
 keep:=fun f hk h=>(hh (f,hk) (Ke h)).2
end Go.Dm
/-
Part 36 of "Dm": what stands in the place of the comparing of two texts (a function vC a body).
-/
namespace Go.Dm
def mT:qM:=fun h args =>
 match args with
 | [.str a,.str b]=>some (.int .i64 (Go.Lib.compareBytes a b),h)
 | _=>none
theorem C0 {P : Program} {f : Nat} {fn : Func} (hf : P.funcs[f]? = some fn) (Fw : (fn.name == "runtime.NumGoroutine") = false) (hb : fn.body.isNone = true) (hn : Extern.findNext fn = none)
  (he:Extern.find fn=some Extern.BytealgCompare.compare):pD P f mT:=by
 refine⟨fun args h d h' c vals hs hR hv=>?_,fun h args v h' _ hs=>?_⟩
 ·unfold mT at hs
  split at hs
  ·rename_i a b
   cases hs
   have hl:=hv.1
   obtain⟨v1,v2,rfl⟩:∃ v1 v2,vals=[v1,v2]:=by
    cases vals with
    | nil=>simp at hl
    | cons a r=>cases r with
     | nil=>simp at hl
     | cons b r=>cases r with
      | nil=>exact⟨a,b,rfl⟩
      | cons c r=>simp at hl
   have w1:VR c (.str a) v1:=hv.2 0 (by simp) (by simp)
   have w2:VR c (.str b) v2:=hv.2 1 (by simp) (by simp)
   have e1:=w1.str_inv
   have e2:=w2.str_inv
   subst e1
   subst e2
   refine .inl ⟨.int .i64 (Go.Lib.compareBytes a b),c.w,?_,kG.pure hR (.int .i64 _)⟩
   rw[run_callFunc_extern hf Fw hb hn he]
   have gJ:=Lib.run_compareString (P:=P) ⟨a.toArray⟩ ⟨b.toArray⟩ c.w
   simp only at gJ
   rw[gJ]
   rfl
  ·cases hs
 ·unfold mT at hs
  split at hs
  ·cases hs;exact .refl _
  ·cases hs
end Go.Dm
/-
Part 32 of "Dm": what stands in the place of slices.Clone: whether a slice vC elements is nil is not asked.
-/
namespace Go.Dm
def bO(ety sz bytes:Nat):qM:=fun h args =>
 match args with
 | [v]=>match elems h sz v with
  | some ys =>
   if ys.isEmpty then some (.nsl,h.push .dead)
   else if ys.length*bytes≤140737488355328∧ys.length≤9223372036854775807 then some (.sl (h.n+1) sz 0 ys.length,(h.push (.arr ety sz [] (some 0))).push (.arr ety sz ys none))
   else none
  | none=>none
 | _=>none
def WQ:bX:={fn:=fun _=>none,hook:=fun _=>none}
theorem Yq{P:Program}(hm:P.follows .mixedOrders=true):Jc P WQ where
 mixed:=hm
 comp:=fun f df h=>by cases h
 hooks:=fun f hk h=>by cases h
 keep:=fun f hk h=>by cases h
theorem A5{h:aA}{o:DO}{sz:Nat}{v:DV}{ys:List DV}(he:elems h sz v=some ys):elems (h.push o) sz v=some ys:=by
 unfold elems at he ⊢
 split at he
 ·exact he
 ·exact he
 ·split at he
  ·rename_i hg
   rw[aN (cY hg),hg]
   exact he
  ·cases he
 ·cases he
theorem Rel.pushDead{h:aA}{c:Ctx}(hR:Rel h c):∃ ρ',Rel (h.push .dead) (c.next c.w ρ' (h.push .dead))∧bL c (c.next c.w ρ' (h.push .dead)):=by
 obtain⟨k1,k2⟩:=hR.push .dead c.w c.w.heap.size 0 (Nat.le_refl _) (Nat.le_refl _) (fun _ _=>rfl) (.refl _) (fun _=>trivial)
 exact⟨_,k1,k2⟩
theorem U7{h:aA}{o:DO}:(h.push o).set h.n .dead=h.push .dead:=by
 simp[aA.push,aA.set]
theorem Mn{P:Program}{t e:TypeId}(hu:P.underlying t=some (.slice e))(ad:Option Addr)(n cap:Nat)(k:Nat)(w:World) :
  (Op.equalIn (k+1) t (.slice ad n cap) (.slice none 0 0)).run P w=.ok ad.isNone w:=by
 cases ad<;>simp[Op.equalIn,run_underlying hu]
theorem Rd{P:Program}{t e:TypeId}(hu:P.underlying t=some (.slice e))(ad:Option Addr)(n cap:Nat)(w:World) :
  (Op.equal t (.slice ad n cap) (.slice none 0 0)).run P w=.ok ad.isNone w:=Mn hu ad n cap 9999 w
structure mH(P:Program)(fn:Func)(ety sz bytes:Nat)(z:DV) where
 (r0 r1 r2 r3:Nat) (os0 os2 os3:Array Oper) (o2 o3:Oper) (t u:TypeId) (e:TypeId)
 body:fn.body=some (.seq (.region r0 os0 false) (.seq (.seq (.region r1 #[o2,o3] false) (.cond (.tmp 4) (.seq (.region r2 os2 false) .ret) .skip)) (.seq (.region r3 os3 false) .ret)))
 hA:bR P (.region r0 os0 false)=some (.region [⟨some 2,.move (.c .nsl),none,.write,0,false⟩])
 h2:cZ P [o2,o3] .write 0 o2=some ⟨some 3,.move (.t 0),none,.write,0,false⟩
 h3:o3.op=.binOp .eql t (.tmp 3) (.const (.slice none 0 0)) u
 h3d:o3.dst=some 4
 h3g:o3.guard.isNone=true
 hu:P.underlying t=some (.slice e)
 hC:bR P (.seq (.region r2 os2 false) .ret)=some (.seq (.region [⟨some 2,.move (.c .nsl),none,.write,0,false⟩]) .ret)
 hD:bR P (.seq (.region r3 os3 false) .ret)=some (.seq (.region [⟨some 5,.buildSlice ety sz z 0 [],none,.write,0,false⟩,⟨some 6,.move (.t 0),none,.write,0,false⟩,⟨some 7,.append ety sz bytes (.t 5) (.t 6),none,.write,0,false⟩,⟨some 2,.move (.t 7),none,.write,0,false⟩]) .ret)
 nt:fn.ntmps=8
 rs:fn.results=#[.tmp 2]
theorem rH {P : Program} {f : Nat} {fn : Func} {ety sz bytes : Nat} {z : DV} (hm : P.follows .mixedOrders = true) (hf : P.funcs[f]? = some fn) (Fw : (fn.name == "runtime.NumGoroutine") = false) (T : mH P fn ety sz bytes z) :
  pD P f (bO ety sz bytes):=by
 refine⟨fun args h d h' c vals hs hR hv=>?_,fun h args v h' hl hs=>?_⟩
 ·unfold bO at hs
  split at hs
  ·rename_i x
   split at hs
   ·rename_i ys vQ
    obtain⟨v,rfl⟩:∃ v,vals=[v]:=by
     have:=hv.1
     cases vals with
     | nil=>simp at this
     | cons a r=>cases r with
      | nil=>exact⟨a,rfl⟩
      | cons b r=>simp at this
    have dF:VR c x v:=hv.2 0 (by simp) (by simp)
    obtain⟨ad,cap,news,e1,e2,e3,e4,e5⟩:=kM hR vQ dF
    have Dp:=(Gv (Yq hm) 3).1
    have hname' : fn.name ≠ "runtime.NumGoroutine" := by simpa using Fw
    refine .inr ⟨f,#[v],lC hf T.body hname' _ _,?_⟩
    refine calls_of_wp hf T.body ?_
    have hE0:cA c [x,bK,bK,bK,bK,bK,bK,bK] {tmps:=#[v]++Array.replicate (fn.ntmps-1) Go.undef,defers:=[]}:=by
     have:=Kv hv 8
     rw[T.nt]
     exact this
    have hend:∀(aU:Env) (h1:aA) (a':Act) (w':World),St c h1 aU a' w'→∀d1,aU[2]?=some d1→(∀ρ' u,Rel h1 (c.next w' ρ' h1)→bL c (c.next w' ρ' h1)→VR (c.next w' ρ' h1) d1 u→kG h c h' w' d u) →
      (a'.defers=[]∧∃ u,(results fn a'.tmps).run P w'=.ok u w'∧rN h c h' d (.returned u) w'):=by
     intro aU h1 a' w' cW d1 Z1 hpost
     obtain⟨ρ',k1,k2,k3⟩:=cW
     obtain⟨aZ,hd1'⟩:=List.getElem?_eq_some_iff.1 Z1
     have hvr:=k3.val 2 aZ
     rw[hd1']at hvr
     refine⟨k3.defers,a'.tmps.getD 2 Go.undef,?_,_,rfl,hpost ρ' _ k1 k2 hvr⟩
     rw[Et,T.rs]
     simp[tO]
    refine wp_seq ?_
    refine Dp _ _ h c _ _ .normal ([x,bK,.nsl,bK,bK,bK,bK,bK]) h _ T.hA rfl hR hE0 fun a1 w1 hst1=>?_
    obtain⟨ρ1,k1,k2,k3⟩:=hst1
    show Code.wp P _ _ a1 w1
    refine wp_seq ?_
    refine wp_seq ?_
    refine wp_region_list ?_
    refine wpList_step fun K hK=>?_
    obtain⟨c1,c2,c3,_,_⟩:=hJ T.h2
    have ks1:Rel h (c.next w1 ρ1 h):=k1
    rw[if_pos (by
     have:=fU (ops:=[T.o2,T.o3]) (c:=c.next w1 ρ1 h) (b:=true) c2 k3 rfl
     exact this)]
    refine qW (P:=P) (call:=fun _ _ _=>none) (fun f args h d h' c vals hc=>by cases hc) c1 ks1 k3 (r:=x) (h':=h) (by rfl) K _ fun u2 w2 BT=>?_
    obtain⟨ρ2,q1,q2,q3⟩:=BT
    rw[Ar]at q1 q2 q3
    refine hK _ _ ?_
    have c3':T.o2.dst=some 3:=c3.symm
    have hE2:cA (c.next w2 ρ2 h) [x,bK,.nsl,x,bK,bK,bK,bK] (a1.put T.o2.dst u2):=by
     rw[c3']
     exact(k3.mono q2).put q3 (some 3)
    refine wpList_step fun K2 hK2=>?_
    rw[if_pos (by
     have:=T.h3g
     have:T.o3.guard=none:=by simpa using this
     simp[Region.wanted,this])]
    have hx3:(a1.put T.o2.dst u2).eval (.tmp 3)=u2:=by
     have dY:3<a1.tmps.size:=by rw[k3.size];simp
     rw[c3']
     simp[Act.eval,Act.put,dY]
    obtain⟨ad2,cap2,news2,f1,f2,f3,f4,f5⟩:=kM q1 vQ q3
    have BW:(execOp (a1.put T.o2.dst u2).eval T.o3).run P w2=.ok (.value (.bool ad2.isNone)) w2:=by
     have hc4:(a1.put T.o2.dst u2).eval (.const (.slice none 0 0))=.slice none 0 0:=rfl
     have hg:(eqGuard .eql T.t (.tmp 3) (.const (.slice none 0 0)) (.slice ad2 ys.length cap2) (.slice none 0 0)).run P w2=.ok () w2:=by
      unfold eqGuard;simp
     have hb:(binOp .eql T.t (.slice ad2 ys.length cap2) (.slice none 0 0)).run P w2=.ok (.bool ad2.isNone) w2:=by
      simp[binOp,Rd T.hu]
     simp[execOp,T.h3,hx3.trans f1,hc4,hg,hb]
    have ho3:NO P T.o3 (a1.put T.o2.dst u2) h (c.next w2 ρ2 h) h (.bool ad2.isNone):=by
     intro K Q hK
     unfold Oper.wp
     rw[show(c.next w2 ρ2 h).w=w2 from rfl,BW]
     exact hK _ w2 (kG.pure q1 (.bool _))
    refine ho3 K2 _ fun u3 w3 hp3=>?_
    obtain⟨ρ3,p1,p2,p3⟩:=hp3
    rw[Ar]at p1 p2 p3
    refine hK2 _ _ ?_
    have hE3:cA (c.next w3 ρ3 h) [x,bK,.nsl,x,.bool ad2.isNone,bK,bK,bK] ((a1.put T.o2.dst u2).put T.o3.dst u3):=by
     rw[T.h3d]
     exact(hE2.mono p2).put p3 (some 4)
    have oK:bL c (c.next w3 ρ3 h):=(k2.trans q2).trans p2
    have ht4:((a1.put T.o2.dst u2).put T.o3.dst u3).eval (.tmp 4)=.bool ad2.isNone:=by
     have:=hE3.val 4 (by simp)
     have:=this.bool_inv
     simpa[Act.eval]using this
    refine wpList_nil ?_
    show Code.wp P _ _ _ w3
    cases had:ad2 with
    | none =>
     rw[had]at ht4
     refine wp_cond_true ht4 ?_
     refine Dp _ _ h (c.next w3 ρ3 h) _ _ .ret ([x,bK,.nsl,x,.bool ad2.isNone,bK,bK,bK]) h _ T.hC (by rfl) p1 hE3 fun a4 w4 Zh=>?_
     have hst4':St c h [x,bK,.nsl,x,.bool ad2.isNone,bK,bK,bK] a4 w4:=Zh.trans oK
     have hy:ys=[]:=f4 had
     rw[if_pos (by rw[hy];rfl)]at hs
     cases hs
     refine hend _ h a4 w4 hst4' .nsl rfl fun ρ' u g1 g2 g3=>?_
     obtain⟨ρ'',m1,m2⟩:=g1.pushDead
     exact⟨ρ'',m1,g2.trans m2,g3.mono m2⟩
    | some adr =>
     rw[had]at ht4
     refine wp_cond_false ht4 ?_
     refine wp_skip ?_
     show Code.wp P _ _ _ w3
     have nL:=A5 (o:=.arr ety sz [] (some 0)) vQ
     by_cases hy:ys.isEmpty=true
     ·rw[if_pos hy]at hs
      cases hs
      have hyn:ys=[]:=by simpa using hy
      refine Dp _ _ h (c.next w3 ρ3 h) _ _ .ret ([x,bK,.sl h.n sz 0 0,x,.bool ad2.isNone,.sl h.n sz 0 0,x,.sl h.n sz 0 0]) (h.push (.arr ety sz [] (some 0))) _ T.hD
       (by simp[dB,eQ,fV,bD,aB,Opd.eval,Dm.put,cU,nL,bB,hyn]) p1 hE3 fun a4 w4 Zh=>?_
      have hst4':=Zh.trans oK
      refine hend _ _ a4 w4 hst4' (.sl h.n sz 0 0) rfl fun ρ' u g1 g2 g3=>?_
      obtain⟨b,base,fB,gK,nn,mS,rfl,hρ,dV,wI,zH,Da⟩:=g3.sl_inv
      have hgn:(h.push (.arr ety sz [] (some 0))).get h.n=some (.arr ety sz [] (some 0)):=cV
      obtain⟨cur,m,g4,g5,g6,g7,g8,g9⟩:=g1.arr hgn hρ
      rw[dL g4]at dV
      cases dV
      have Pk:m=0:=by have:=(g8 0 rfl).1;omega
      have gP:fB=0:=by
       have:fB*sz=0:=by rw[Pk]at g6;omega
       rcases Nat.mul_eq_zero.1 this with e|e
       ·exact e
       ·omega
      subst gP
      obtain⟨m1,m2⟩:=g1.kill hgn
      rw[U7]at m1 m2
      exact⟨ρ',m1,g2.trans m2,.nsl _⟩
     ·rw[if_neg hy]at hs
      split at hs
      ·rename_i hb
       cases hs
       have hyp:¬ys.length=0:=fun e=>hy (by simpa using List.eq_nil_of_length_eq_zero e)
       have hyf:ys.isEmpty=false:=by simpa using hy
       have hgn:(h.push (.arr ety sz [] (some 0))).get h.n=some (.arr ety sz [] (some 0)):=cV
       refine Dp _ _ h (c.next w3 ρ3 h) _ _ .ret ([x,bK,.sl (h.n+1) sz 0 ys.length,x,.bool ad2.isNone,.sl h.n sz 0 0,x,.sl (h.n+1) sz 0 ys.length]) ((h.push (.arr ety sz [] (some 0))).push (.arr ety sz ys none)) _ T.hD
        (by
         have hap:bB (h.push (.arr ety sz [] (some 0))) ety sz bytes (.sl h.n sz 0 0) ys=some (.sl (h.n+1) sz 0 ys.length,(h.push (.arr ety sz [] (some 0))).push (.arr ety sz ys none)):=by
          simp only[bB,hyf,Bool.false_eq_true,if_false,hgn]
          rw[if_pos (by simpa using hb),if_neg (show ¬0+(0+ys.length)≤([]:List DV).length from fun cD=>hyp (by have:([]:List DV).length=0:=rfl;omega))]
          simp[As]
         simp[dB,eQ,fV,bD,aB,Opd.eval,Dm.put,cU,nL,hap]) p1 hE3 fun a4 w4 Zh=>?_
       have hst4':=Zh.trans oK
       refine hend _ _ a4 w4 hst4' (.sl (h.n+1) sz 0 ys.length) rfl fun ρ' u g1 g2 g3=>?_
       exact⟨ρ',g1,g2,g3⟩
      ·cases hs
   ·cases hs
  ·cases hs
 ·unfold bO at hs
  split at hs
  ·split at hs
   ·split at hs
    ·cases hs;exact .push hl _
    ·split at hs
     ·cases hs;exact(dT.push hl _).trans (.push (Nat.le_succ_of_le hl) _)
     ·cases hs
   ·cases hs
  ·cases hs
end Go.Dm
/-
Part 33 of "Dm": what stands in the place of errors.As, at the two targets that occur: an error number, a fault.
-/
namespace Go.Dm
open Go.RowKit
def DS:DV→Option DV
 | .ptr id sz idx off=>some (.ptr id sz idx (off+2))
 | .iptr l cs off=>some (.iptr l cs (off+2))
 | _=>none
def M8(tE tF:TypeId)(h:aA):Nat→DV→Option (Option DV)
 | 0,_=>none
 | n+1,d=>match d with
  | .iface t x =>
   if t=tE then(match x with|.int .i64 k=>some (some (.int .i64 k))|_=>none)
   else if t=tF then
    match DS x with
    | some y=>match jF h none y with
     | some .nili=>some none
     | some d'=>M8 tE tF h n d'
     | none=>none
    | none=>none
   else none
  | _=>none
def v6(tE tF tPE tPF:TypeId):qM:=fun h args =>
 match args with
 | [.nili,_]=>some (.bool false,h)
 | [.iface t x,.iface t' (.ptr id sz idx off)] =>
  if t'=tPE then
   match M8 tE tF h 50 (.iface t x)with
   | some (some k)=>match jZ h 1 (.ptr id sz idx off) k with|some h'=>some (.bool true,h')|none=>none
   | some none=>if(jZ h 1 (.ptr id sz idx off) (.int .i64 0)).isSome then some (.bool false,h)else none
   | none=>none
  else if t'=tPF then
   if t=tF then
    match DS x with
    | some _=>match jZ h 1 (.ptr id sz idx off) x with|some h'=>some (.bool true,h')|none=>none
    | none=>none
   else if t=tE then(match x with|.int .i64 _=>some (.bool false,h)|_=>none)
   else none
  else none
 | _=>none
inductive vA(tE tF:TypeId)(w:World):Value→Option Int→Nat→Prop
 | hit (n:Int):vA tE tF w (.iface tE (.int .i64 n)) (some n) 0
 | step (b o:Nat) (v:Value) (r:Option Int) (n:Nat):w.cell? ⟨b,o+2,none⟩=some v→vA tE tF w v r n→vA tE tF w (.iface tF (.pointer (some ⟨b,o,none⟩))) r (n+1)
 | stop (b o:Nat):w.cell? ⟨b,o+2,none⟩=some .nilIface→vA tE tF w (.iface tF (.pointer (some ⟨b,o,none⟩))) none 0
structure w9(P:Program)(f:Nat)(fn:Func)(tE tF tPE tPF:TypeId):Prop where
 hf:P.funcs[f]?=some fn
 hb:fn.body.isSome=true
 hn : (fn.name == "runtime.NumGoroutine") = false
 nil:∀(t:Value) (w:World),Calls P f #[.nilIface,t] w fun e w'=>e=.returned (.bool false)∧w'=w
 num:∀(v:Value) (r:Option Int) (n:Nat) (p:Addr) (old:Value) (w:World),Vi w→vA tE tF w v r n→w.cell? p=some old→w.frozen? p=false →
  Calls P f #[v,.iface tPE (.pointer (some p))] w fun e w'=>e=.returned (.bool r.isSome)∧∃ w1,(Below w.heap.size w w1∧(∀a,w1.frozen? a=w.frozen? a)∧w.drawn≤w1.drawn)∧w'=match r with|some n=>w1.setCell p (.int .i64 n)|none=>w1
 hit:∀(q p:Addr) (old:Value) (w:World),Vi w→w.cell? p=some old→w.frozen? p=false →
  Calls P f #[.iface tF (.pointer (some q)),.iface tPF (.pointer (some p))] w fun e w'=>e=.returned (.bool true)∧∃ w1,(Below w.heap.size w w1∧(∀a,w1.frozen? a=w.frozen? a)∧w.drawn≤w1.drawn)∧w'=w1.setCell p (.pointer (some q))
 miss:∀(n:Int) (p:Addr) (w:World),Vi w →
  Calls P f #[.iface tE (.int .i64 n),.iface tPF (.pointer (some p))] w fun e w'=>e=.returned (.bool false)∧Below w.heap.size w w'∧(∀a,w'.frozen? a=w.frozen? a)∧w.drawn≤w'.drawn
theorem Rel.grow{h:aA}{c:Ctx}(hR:Rel h c){w1:World}(hb:Below c.w.heap.size c.w w1)(hf:∀a,a.block<c.w.heap.size→w1.frozen? a=c.w.frozen? a)(hd:c.w.drawn≤w1.drawn):Rel h (c.next w1 c.ρ h)∧bL c (c.next w1 c.ρ h):=by
 have hO:∀b,(hZ h c.ρ b∨c.E b)↔c.O b:=fun b=>(hR.own b).symm
 have lP:∀b,b<c.w.heap.size→w1.heap[b]?=c.w.heap[b]?:=hb.block
 have oK:bL c (c.next w1 c.ρ h) :=
  ⟨fun _ _ hp=>hp,hb.size,fun b Po _=>lP b Po,fun b Po=>.inl ((hO b).1 Po),fun b e n hs=>by
   have:=El hs
   simp only[World.shape?,Ctx.next]at hs ⊢
   rw[lP b this];exact hs,fun _ hx=>hx,fun b Po hE=>⟨hE,lP b Po⟩,⟨hb.os,hb.output,hb.tape,hd,hb.size,hf⟩,rfl⟩
 exact⟨⟨hR.len,hR.lim,hR.dom,fun id o hg=>(hR.obj id o hg).mono oK (fun ha b x hr=>lP b (hR.block_lt hg ha hr)),hR.inj,fun _=>Iff.rfl,fun b Po=>hR.notX b ((hO b).1 Po),fun b Po=>Nat.lt_of_lt_of_le (hR.old b Po) hb.size,
  fun b Po=>⟨Nat.lt_of_lt_of_le (hR.pend b Po).1 hb.size,(hR.pend b Po).2⟩,hR.glob.mono oK⟩,oK⟩
end Go.Dm
/-
Part 41 of "Dm": slices.Clone whose row is written no more.
-/
namespace Go.Dm
def nJ(ety sz bytes:Nat):qM:=fun h args =>
 match bO ety sz bytes h args with
 | some (v,h1)=>gS h1 v
 | none=>none
theorem kG.frozen{h h1 h2:aA}{c:Ctx}{w:World}{d d':DV}{v:Value}(hp:kG h c h1 w d v)(hf:gS h1 d=some (d',h2)):kG h c h2 w d' v:=by
 obtain⟨ρ,k1,k2,k3⟩:=hp
 obtain⟨⟨q1,q2⟩,q3⟩:=sK k1 k3 hf
 exact⟨ρ,q1,k2.trans q2,q3⟩
theorem SB{P:Program}{f:Nat}{ety sz bytes:Nat}(hk:pD P f (bO ety sz bytes)):pD P f (nJ ety sz bytes):=by
 refine⟨fun args h d h' c vals hs hR hv=>?_,fun h args v h' hl hs=>?_⟩
 ·unfold nJ at hs
  split at hs
  ·rename_i v h1 hc
   rcases hk.1 args h v h1 c vals hc hR hv with⟨u,w',k1,k2⟩|⟨f',vals',k1,k2⟩
   ·exact .inl ⟨u,w',k1,k2.frozen hs⟩
   ·exact .inr ⟨f',vals',k1,k2.mono fun e w hp=>by
     obtain⟨u,rfl,hp⟩:=hp
     exact⟨u,rfl,hp.frozen hs⟩⟩
  ·cases hs
 ·unfold nJ at hs
  split at hs
  ·rename_i u h1 hc
   exact(hk.2 h args u h1 hl hc).trans (sL hs)
  ·cases hs
end Go.Dm
/-
Part 42 of "Dm": what stands in the place of slices.Sort of ints and of slices.SortFunc of pairs of ints: the row sorted.
-/
namespace Go.Dm
def Cw{α:Type}(lt:α→α→Bool)(x:α):List α→List α
 | []=>[x]
 | y::r=>if lt y x=true then y::Cw lt x r else x::y::r
def fZ{α:Type}(lt:α→α→Bool)(l:List α):List α:=l.foldr (Cw lt) []
def ltZ(a b:Int):Bool:=decide (a<b)
def ltP(a b:Int×Int):Bool:=decide (a.1<b.1∨(a.1=b.1∧a.2<b.2))
def unI:DV→Option Int
 | .int .i64 n=>some n
 | _=>none
def unP:DV→Option (Int×Int)
 | .agg [.int .i64 a,.int .i64 b]=>some (a,b)
 | _=>none
def mkI(n:Int):DV:=.int .i64 n
def mkP(p:Int×Int):DV:=.agg [.int .i64 p.1,.int .i64 p.2]
def pM{α:Type}(sz:Nat)(un:DV→Option α)(mk:α→DV)(lt:α→α→Bool)(h:aA):DV→Option (DV×aA)
 | .nsl=>some (.tup [],h)
 | .sl id dK off len=>match h.get id with
  | some (.arr ety jH xs cap) =>
   if sz=dK∧sz=jH∧h.lim≤id∧off+len≤xs.length∧len<4611686018427387904 then
    match((xs.drop off).take len).mapM un with
    | some zs=>some (.tup [],h.set id (.arr ety sz (cF xs ((fZ lt zs).map mk) off) cap))
    | none=>none
   else none
  | _=>none
 | _=>none
def qS:qM:=fun h args=>match args with
 | [v]=>pM 1 unI mkI ltZ h v
 | _=>none
def nQ(g:Nat):qM:=fun h args=>match args with
 | [v,.func g' []]=>if Nat.beq g' g=true then pM 2 unP mkP ltP h v else none
 | _=>none
end Go.Dm
/-
Part 43 of "Dm": a row sorted is what the library's sorting leaves.
-/
namespace Go.Dm
structure He(P:Program)(f:FuncId)(k:Nat)(extra:List Value){α:Type}(enc:α→List Value)(lt:α→α→Bool):Prop where
 enter:∀args w,(callFunc f args).run P w=.ok (.enter f args) w
 none:∀(a:Option Addr) (cap:Nat) (w:World),Calls P f (.slice a 0 cap::extra).toArray w fun e w'=>e=.returned (.tuple #[])∧w'=w
 row:∀(b co cap:Nat) (zs:List α) (w:World),zs.length<4611686018427387904→b<w.heap.size→(∀b' v,Oi=some (b',v)→b'≠b∧b'<w.heap.size∧w.cell? ⟨b',0,Option.none⟩=some v) →
  (∀i (hi:i<zs.length) j,j<k→w.cell? ⟨b,co+i*k+j,Option.none⟩=(enc zs[i])[j]?∧w.frozen? ⟨b,co+i*k+j,Option.none⟩=false) →
  Calls P f (.slice (some ⟨b,co,Option.none⟩) zs.length cap::extra).toArray w fun e w'=>e=.returned (.tuple #[])∧∃ n os,w'=Sort.grow (Sort.putRow id (Sort.ahead w n) b co ((fZ lt zs).flatMap enc).toArray) os
theorem Ik{h:aA}{id:Nat}{o:DO}(hg:h.get id=some o):h.set id o=h:=by
 have aZ:=cY hg
 unfold aA.get at hg
 rw[if_pos aZ]at hg
 unfold aA.set
 have:h.objs.set (h.n-1-id) o=h.objs:=by
  apply List.ext_getElem?
  intro j
  rw[List.getElem?_set]
  by_cases e:h.n-1-id=j
  ·subst e
   rw[if_pos rfl]
   split
   ·exact hg.symm
   ·rename_i hh;rw[List.getElem?_eq_none (by omega)]
  ·rw[if_neg e]
 rw[this]
theorem Cg{α:Type}{un:DV→Option α}:∀{l:List DV} {zs:List α},l.mapM un=some zs→zs.length=l.length∧∀i (h1:i<l.length) (h2:i<zs.length),un l[i]=some zs[i]
 | [],zs,h=>by
  simp at h
  subst h
  exact⟨rfl,fun i h1=>absurd h1 (Nat.not_lt_zero _)⟩
 | d::l,zs,h=>by
  rw[List.mapM_cons]at h
  cases h1:un d with
  | none=>simp[h1]at h
  | some z =>
   cases h2:l.mapM un with
   | none=>simp[h1,h2]at h
   | some r =>
    simp[h1,h2]at h
    subst h
    obtain⟨e1,e2⟩:=Cg h2
    refine⟨by simp[e1],fun i a1 a2=>?_⟩
    cases i with
    | zero=>exact h1
    | succ i=>exact e2 i (by simpa using a1) (by simpa using a2)
theorem U4{w:World}{b p:Nat}{cur:Array Value}{ety:TypeId}(g1:w.heap[b]?=some (.cells cur ety (0,0)))(vs:List Value)(hp:p+vs.length≤cur.size) :
  (Sort.putRow id w b p vs.toArray).heap=(w.setRow b (spl cur p vs)).heap:=by
 apply Array.ext_getElem?
 intro q
 by_cases hq:q=b
 ·subst hq
  rw[setRow_heap w q cur _ ety (0,0) g1]
  simp only[Sort.putRow,Sort.mapBlock,Array.getElem?_modify,if_true,g1,Option.map_some,Sort.onCells]
  congr 2
  apply Array.ext_getElem?
  intro j
  rw[pL hp]
  simp only[Sort.putCells,Array.getElem?_mapIdx,List.size_toArray]
  by_cases h1:j<p
  ·rw[if_pos h1]
   have:¬(p≤j∧j<p+vs.length):=by omega
   simp[this]
  ·rw[if_neg h1]
   by_cases h2:j<p+vs.length
   ·rw[if_pos h2]
    have h3:p≤j∧j<p+vs.length:=by omega
    have h4:j<cur.size:=by omega
    have h5:j-p<vs.length:=by omega
    simp[h3,h4,h5]
   ·rw[if_neg h2]
    have:¬(p≤j∧j<p+vs.length):=by omega
    simp[this]
 ·rw[setRow_other _ _ _ _ hq]
  simp only[Sort.putRow,Sort.mapBlock,Array.getElem?_modify]
  rw[if_neg (fun e=>hq e.symm)]
theorem pY{α:Type}{enc:α→List Value}{k:Nat}(hk:∀z,(enc z).length=k):∀(zs:List α) (i:Nat) (hi:i<zs.length) (j:Nat),j<k→(zs.flatMap enc)[i*k+j]?=(enc zs[i])[j]?
 | [],i,hi,_,_=>absurd hi (Nat.not_lt_zero _)
 | z::zs,0,_,j,hj=>by
  simp only[List.flatMap_cons,Nat.zero_mul,Nat.zero_add,List.getElem_cons_zero]
  rw[List.getElem?_append_left (by rw[hk];exact hj)]
 | z::zs,i+1,hi,j,hj=>by
  simp only[List.flatMap_cons,List.getElem_cons_succ]
  rw[List.getElem?_append_right (by rw[hk,Nat.add_mul];omega),hk,←pY hk zs i (by simpa using hi) j hj]
  congr 1
  rw[Nat.add_mul];omega
theorem uJ{α:Type}{enc:α→List Value}{k:Nat}(hk:∀z,(enc z).length=k)(zs:List α):(zs.flatMap enc).length=zs.length*k:=by
 induction zs with
 | nil=>simp
 | cons z zs ih=>simp only[List.flatMap_cons,List.length_append,hk,ih,List.length_cons,Nat.add_mul];omega
theorem GQ{α:Type}(lt:α→α→Bool)(x:α)(l:List α):(Cw lt x l).length=l.length+1:=by
 induction l with
 | nil=>rfl
 | cons y r ih =>
  simp only[Cw]
  split
  ·simp[ih]
  ·rfl
theorem Zc{α:Type}(lt:α→α→Bool)(l:List α):(fZ lt l).length=l.length:=by
 unfold fZ
 induction l with
 | nil=>rfl
 | cons x r ih=>rw[List.foldr_cons,GQ,ih];rfl
theorem wO{P:Program}{f:FuncId}{k:Nat}{extra:List Value}{α:Type}{enc:α→List Value}{lt:α→α→Bool}{un:DV→Option α}{mk:α→DV}(C:He P f k extra enc lt)(hk:∀z,(enc z).length=k)(h1:∀z,∀v∈enc z,v.oneCell'=true)
  (IM:∀d z,un d=some z→∀(c:Ctx) (j:Nat) (e:DV) (v:Value),(aF k d)[j]?=some e→VR c e v→(enc z)[j]?=some v) (OK:∀z,(aF k (mk z)).length=k∧∀(c:Ctx) (j:Nat) (e:DV),(aF k (mk z))[j]?=some e→∃ u,(enc z)[j]?=some u∧VR c e u)
  {h h':aA} {c:Ctx} {d r:DV} {v:Value} (hR:Rel h c) (hv:VR c d v) (hs:pM k un mk lt h d=some (r,h')):Calls P f (v::extra).toArray c.w (rN h c h' r):=by
 have unit:∀c:Ctx,VR c (.tup []) (.tuple #[]):=fun c=>VR.tup (c:=c) (ds:=[]) (vs:=[]) rfl (fun i h1=>absurd h1 (Nat.not_lt_zero _))
 unfold pM at hs
 split at hs
 ·cases hs
  obtain⟨a,rfl⟩:=hv.nsl_inv
  refine(C.none a 0 c.w).mono fun e w' ⟨he,hw⟩=>⟨_,he,?_⟩
  rw[hw]
  exact kG.pure hR (unit c)
 ·rename_i id dK off len
  split at hs
  ·rename_i ety jH xs cap hg
   split at hs
   ·rename_i bV
    obtain⟨e1,e2,bE,cD,hbig⟩:=bV
    subst e1;subst e2
    split at hs
    ·rename_i zs hz
     cases hs
     obtain⟨z1,z2⟩:=Cg hz
     have hdl:((xs.drop off).take len).length=len:=by rw[List.length_take,List.length_drop];omega
     rw[hdl]at z1
     obtain⟨b,base,fB,gK,nn,mS,rfl,hρ,dV,wI,zH,Da⟩:=hv.sl_inv
     obtain⟨cur,mm,g1,g2,g3,g4,g5,g6⟩:=hR.arr hg hρ
     by_cases MC:len=0
     ·subst MC
      have SF:zs=[]:=List.length_eq_zero_iff.1 z1
      subst SF
      have hsp:cF xs ((fZ lt ([]:List α)).map mk) off=xs:=by
       apply List.ext_getElem?
       intro q
       rw[Ei (by simp[fZ];omega)]
       split
       ·rfl
       ·rw[if_neg (by simp[fZ];omega)]
      rw[hsp,Ik hg]
      refine(C.none _ fB c.w).mono fun e w' ⟨he,hw⟩=>⟨_,he,?_⟩
      rw[hw]
      exact kG.pure hR (unit c)
     ·have mQ:gK=base+off*k:=Da.elim (fun e=>e) (fun e=>by omega)
      subst mQ
      have Po:b<c.w.heap.size:=(Array.getElem?_eq_some_iff.1 g1).1
      have hcells:∀i (hi:i<zs.length) j,j<k→c.w.cell? ⟨b,base+off*k+i*k+j,none⟩=(enc zs[i])[j]?∧c.w.frozen? ⟨b,base+off*k+i*k+j,none⟩=false:=fun i hi j hj=>by
       refine⟨?_,qB (ob:=.cells cur ety (0,0)) g1 rfl⟩
       have hxi:off+i<xs.length:=by omega
       have hu:=z2 i (by rw[hdl];omega) hi
       rw[List.getElem_take,List.getElem_drop]at hu
       obtain⟨p1,p2⟩:=g6 (off+i) hxi
       obtain⟨u,q1,q2,q3⟩:=p2 j (by rw[p1];exact hj)
       have q4:=IM _ _ hu c j _ u (List.getElem?_eq_getElem (by rw[p1];exact hj)) q3
       rw[q4]
       have sG:base+off*k+i*k+j=base+(off+i)*k+j:=by rw[Nat.add_mul];omega
       rw[sG,←q1]
       simp[World.cell?,g1]
      have Zi:=Zc lt zs
      have eV:iM c k ((fZ lt zs).map mk) ((fZ lt zs).flatMap enc):=by
       refine⟨by rw[uJ hk,List.length_map],fun u hu=>?_,fun i d hd=>?_⟩
       ·obtain⟨z,_,hz⟩:=List.mem_flatMap.1 hu
        exact h1 z u hz
       ·rw[List.getElem?_map]at hd
        obtain⟨z,hz,rfl⟩:=Option.map_eq_some_iff.1 hd
        obtain⟨hi,rfl⟩:=List.getElem?_eq_some_iff.1 hz
        obtain⟨m1,m2⟩:=OK (fZ lt zs)[i]
        refine⟨m1,fun j e he=>?_⟩
        obtain⟨u,n1,n2⟩:=m2 c j e he
        have hj:=(List.getElem?_eq_some_iff.1 he).1
        exact⟨u,by rw[pY hk _ i hi j (by omega)];exact n1,n2⟩
      obtain⟨kX,nL⟩:=mL g6 g3 g4 eV (k:=off) (by rw[List.length_map];omega)
      obtain⟨k1,k2⟩:=hR.write hg hρ g1 g2 g3 (cF xs ((fZ lt zs).map mk) off) (qG (by rw[List.length_map];omega)) g4 g5 (base+off*k) _ kX eV.2.1 nL
      have iR:c.O b:=(hR.own b).2 (.inl ⟨id,_,base,hg,rfl,hρ⟩)
      have hc:=C.row b (base+off*k) fB zs c.w (by omega) Po (fun b' v hgv=>⟨fun e=>(hR.glob b' v hgv).2.1 (e ▸ iR),(hR.glob b' v hgv).1,(hR.glob b' v hgv).2.2⟩) hcells
      rw[z1]at hc
      refine hc.mono fun e w' ⟨he,n,os,hw⟩=>⟨_,he,?_⟩
      have hheap:=U4 g1 ((fZ lt zs).flatMap enc) kX
      generalize hW1:c.w.setRow b (spl cur (base+off*k) ((fZ lt zs).flatMap enc))=W1 at *
      have dY:W1.heap.size=c.w.heap.size:=by rw[←hW1];simp[World.setRow]
      have Vl:w'.heap=W1.heap++os:=by
       rw[hw]
       rw[←hheap]
       simp only[Sort.grow,Sort.putRow,Sort.mapBlock,Sort.ahead]
      have hold:∀q,q<W1.heap.size→w'.heap[q]?=W1.heap[q]?:=fun q hq=>by rw[Vl,Array.getElem?_append_left hq]
      have hos:w'.os=W1.os∧w'.tape=W1.tape∧w'.output=W1.output:=by rw[hw,←hW1];exact⟨rfl,rfl,rfl⟩
      obtain⟨q1,q2⟩:=k1.grow (w1:=w') ⟨hos.1,hos.2.1,hos.2.2,by rw[Vl];simp[Ctx.next],hold⟩ (fun a ha=>by
       simp only[World.frozen?,Ctx.next]at ha ⊢
       rw[hold _ ha]) (by rw[hw,←hW1];exact Nat.le_add_right _ _)
      rw[Ar]at q1 q2
      exact⟨c.ρ,q1,k2.trans q2,unit _⟩
    ·cases hs
   ·cases hs
  ·cases hs
 ·cases hs
theorem wP{k:Nat}{α:Type}{lt:α→α→Bool}{un:DV→Option α}{mk:α→DV}{h h':aA}{d r:DV}(hs:pM k un mk lt h d=some (r,h')):dT h h':=by
 unfold pM at hs
 split at hs
 ·cases hs;exact .refl _
 ·split at hs
  ·split at hs
   ·rename_i ety sz2 xs cap hg bV
    split at hs
    ·cases hs
     exact dT.set hg bV.2.2.1 _
    ·cases hs
   ·cases hs
  ·cases hs
 ·cases hs
def AJ(n:Int):List Value:=[.int .i64 n]
def jB(p:Int×Int):List Value:=[.int .i64 p.1,.int .i64 p.2]
theorem Qu{P:Program}{f:FuncId}(C:He P f 1 [] AJ ltZ):pD P f qS:=by
 refine⟨fun args h d h' c vals hs hR hv=>?_,fun h args v h' _ hs=>?_⟩
 ·unfold qS at hs
  split at hs
  ·rename_i x
   obtain⟨v,rfl⟩:∃ v,vals=[v]:=by
    have:=hv.1
    match vals with
    | [v]=>exact⟨v,rfl⟩
    | []=>simp at this
    | _::_::_=>simp at this
   have hx:VR c x v:=hv.2 0 (by simp) (by simp)
   refine .inr ⟨f,_,C.enter _ _,wO C (fun _=>rfl) (fun z u hu=>by simp[AJ]at hu;subst hu;rfl) (fun d z hd c j e v he hv=>?_) (fun z=>⟨rfl,fun c j e he=>?_⟩) hR hx hs⟩
   ·unfold unI at hd
    split at hd
    ·cases hd
     rcases j with _|j
     ·simp[aF]at he;subst he
      rw[hv.int_inv];rfl
     ·simp[aF]at he
    ·cases hd
   ·rcases j with _|j
    ·simp[aF,mkI]at he;subst he
     exact⟨_,rfl,.int _ _⟩
    ·simp[aF,mkI]at he
  ·cases hs
 ·unfold qS at hs
  split at hs
  ·exact wP hs
  ·cases hs
theorem Mi{P:Program}{f:FuncId}{g:Nat}(C:He P f 2 [.func (.func g) #[] #[]] jB ltP):pD P f (nQ g):=by
 refine⟨fun args h d h' c vals hs hR hv=>?_,fun h args v h' _ hs=>?_⟩
 ·unfold nQ at hs
  split at hs
  ·rename_i x g'
   split at hs
   ·rename_i hgg
    have hgg:=Nat.eq_of_beq_eq_true hgg
    subst hgg
    obtain⟨v,u,rfl⟩:∃ v u,vals=[v,u]:=by
     have:=hv.1
     match vals with
     | [v,u]=>exact⟨v,u,rfl⟩
     | []=>simp at this
     | [_]=>simp at this
     | _::_::_::_=>simp at this
    have hx:VR c x v:=hv.2 0 (by simp) (by simp)
    have hf:VR c (.func g' []) u:=hv.2 1 (by simp) (by simp)
    obtain⟨vs,rfl,hl,_⟩:=hf.func_inv
    have:vs=[]:=List.length_eq_zero_iff.1 hl.symm
    subst this
    refine .inr ⟨f,_,C.enter _ _,wO C (fun _=>rfl) (fun z u hu=>by simp[jB]at hu;rcases hu with rfl|rfl<;>rfl) (fun d z hd c j e v he hv=>?_) (fun z=>⟨rfl,fun c j e he=>?_⟩) hR hx hs⟩
    ·unfold unP at hd
     split at hd
     ·cases hd
      rcases j with _|_|j
      ·simp[aF]at he;subst he
       rw[hv.int_inv];rfl
      ·simp[aF]at he;subst he
       rw[hv.int_inv];rfl
      ·simp[aF]at he
     ·cases hd
    ·rcases j with _|_|j
     ·simp[aF,mkP]at he;subst he
      exact⟨_,rfl,.int _ _⟩
     ·simp[aF,mkP]at he;subst he
      exact⟨_,rfl,.int _ _⟩
     ·simp[aF,mkP]at he
   ·cases hs
  ·cases hs
 ·unfold nQ at hs
  split at hs
  ·split at hs
   ·exact wP hs
   ·cases hs
  ·cases hs
end Go.Dm
/-
Part 1 of "Dw", the machine's runs vC a bound: what a code does if it is given steps enough; the equations of that.
-/
namespace Go.Dm
abbrev uY:=aI→Env→aA→Res
abbrev fF:=Nat→List DV→aA→Option (DV×aA)
def mW(r1 r2:uY):Prop:=∀c env h e aU h',r1 c env h=.ok e aU h'→r2 c env h=.ok e aU h'
def pE(c1 c2:fF):Prop:=∀f args h r,c1 f args h=some r→c2 f args h=some r
theorem mW.refl(r:uY):mW r r:=fun _ _ _ _ _ _ h=>h
theorem mW.trans{a b c:uY}(h:mW a b)(g:mW b c):mW a c:=fun x y z e u v k=>g _ _ _ _ _ _ (h x y z e u v k)
theorem qX{c1 c2:fF}(hc:pE c1 c2){o:DOp}{env:Env}{h:aA}{r:DV×aA}(hs:bD c1 o env h=some r):bD c2 o env h=some r:=by
 cases o
 case call f args =>
  simp only[bD]at hs ⊢
  split at hs
  ·exact hc _ _ _ _ hs
  ·cases hs
 all_goals exact hs
theorem Z0{c1 c2:fF}(hc:pE c1 c2){l:Nat}{o:DOp}{env:Env}{h:aA}{r:DV×aA}(hs:kY c1 l o env h=some r):kY c2 l o env h=some r:=by
 unfold kY at hs ⊢
 split at hs
 ·rename_i v h' h1
  rw[qX hc h1];exact hs
 ·cases hs
theorem Ry{c1 c2:fF}(hc:pE c1 c2){q:Nat}{L:cC}{o:DOp}{env:Env}{h:aA}{r:DV×aA×cC}(hs:kU c1 q L o env h=some r):kU c2 q L o env h=some r:=by
 unfold kU at hs ⊢
 split at hs
 ·split at hs
  ·rename_i h1
   rw[qX hc h1];exact hs
  ·cases hs
 ·cases hs
theorem Cm{c1 c2:fF}(hc:pE c1 c2){l q:Nat}{L:cC}{o:DOp}{env:Env}{h:aA}{r:DV×aA×cC}(hs:cL c1 l q L o env h=some r):cL c2 l q L o env h=some r:=by
 unfold cL at hs ⊢
 split at hs
 ·exact hs
 ·split at hs
  ·exact Ry hc hs
  ·split at hs
   ·rename_i v h' h1
    rw[Z0 hc h1];exact hs
   ·cases hs
theorem vH{c1 c2:fF}(hc:pE c1 c2):∀(ops:List aJ) {env:Env} {h:aA} {r:Env×aA},eQ c1 ops env h=some r→eQ c2 ops env h=some r:=by
 intro ops
 induction ops with
 | nil=>intro env h r hs;exact hs
 | cons o ops ih =>
  intro env h r hs
  simp only[eQ]at hs ⊢
  split at hs
  ·split at hs
   ·rename_i v h' h1
    rw[qX hc h1];exact ih hs
   ·cases hs
  ·exact ih hs
  ·cases hs
theorem rU{c1 c2:fF}(hc:pE c1 c2):∀(ops:List aJ) {env:Env} {hs:List aA} {L:cC} {r:Env×aA},dH c1 ops env hs L=some r→dH c2 ops env hs L=some r:=by
 intro ops
 induction ops with
 | nil=>intro env h L r hs;exact hs
 | cons o ops ih =>
  intro env hs L r he
  cases hs with
  | nil=>simp[dH]at he
  | cons h hs =>
   simp only[dH]at he ⊢
   split at he
   ·cases he
   ·split at he
    ·split at he
     ·rename_i Pm
      rw[if_pos Pm]
      split at he
      ·split at he
       ·exact ih he
       ·cases he
      ·cases he
     ·cases he
    ·split at he
     ·rename_i v h' h1
      rw[qX hc h1];exact ih he
     ·cases he
    ·split at he
     ·split at he
      ·rename_i v h' L' h1
       rw[Cm hc h1];exact ih he
      ·cases he
     ·cases he
   ·exact ih he
def gR(run:uY)(df:aK)(args:List DV)(h:aA):Option (DV×aA) :=
 match run df.body (args++List.replicate (df.ntmps-args.length) bK) h with
 | .ok (.exit _) _ _=>none
 | .ok _ env h'=>match aV h' env df.results with
  | some v=>some (v,h')
  | none=>none
 | .fail=>none
theorem oU{r1 r2:uY}(hr:mW r1 r2){df:aK}{args:List DV}{h:aA}{r:DV×aA}(hs:gR r1 df args h=some r):gR r2 df args h=some r:=by
 unfold gR at hs ⊢
 split at hs
 ·cases hs
 ·rename_i e env h' cQ h1
  rw[hr _ _ _ _ _ _ h1]
  cases e with
  | exit id=>exact absurd rfl (cQ id)
  | normal=>exact hs
  | ret=>exact hs
 ·cases hs
def gZ(run:uY)(df:aK)(rest:List DV)(id sz off len ety:Nat)(xs:List DV)(h:aA)(e:Nat)(cap:Option Nat):Option (List DV) :=
 nZ h ety sz (gR run df (.sl h.n sz off len::rest) {(h.set id .dead).push (.arr ety sz (xs++List.replicate e .unk) cap)with lim:=h.n})
theorem nR{r1 r2:uY}(hr:mW r1 r2){df:aK}{rest:List DV}{id sz off len ety:Nat}{xs:List DV}{h:aA}{e:Nat}{cap:Option Nat}{l:List DV}(hs:gZ r1 df rest id sz off len ety xs h e cap=some l) :
  gZ r2 df rest id sz off len ety xs h e cap=some l:=by
 unfold gZ at hs ⊢
 cases hg:gR r1 df (.sl h.n sz off len::rest) {(h.set id .dead).push (.arr ety sz (xs++List.replicate e .unk) cap)with lim:=h.n} with
 | none=>rw[hg]at hs;simp[nZ]at hs
 | some r=>rw[oU hr hg,←hg];exact hs
def jM(run:uY)(df:aK)(rest:List DV)(id sz off len ety:Nat)(xs:List DV)(h:aA):Option (DV×aA) :=
 match gZ run df rest id sz off len ety xs h ((rest.map Ad).foldl (·+·) 0) none with
 | some l=>if(List.range ((rest.map Ad).foldl (·+·) 0)).all (fun e=>match gZ run df rest id sz off len ety xs h e (some (xs.length+e))with|some l'=>tA l l'|none=>false)=true then
   some (.sl h.n sz 0 l.length,(h.set id .dead).push (.arr ety sz l none))else none
 | none=>none
theorem Qt{r1 r2:uY}(hr:mW r1 r2){df:aK}{rest:List DV}{id sz off len ety:Nat}{xs:List DV}{h:aA}{r:DV×aA}(hs:jM r1 df rest id sz off len ety xs h=some r) :
  jM r2 df rest id sz off len ety xs h=some r:=by
 unfold jM at hs ⊢
 split at hs
 ·rename_i l hl
  split at hs
  ·rename_i gB
   rw[nR hr hl]
   simp only
   rw[if_pos]
   ·exact hs
   ·refine List.all_eq_true.2 fun e he=>?_
    have:=List.all_eq_true.1 gB e he
    split at this
    ·rename_i l' Vn
     rw[nR hr Vn];exact this
    ·cases this
  ·cases hs
 ·cases hs
def dI(run:uY)(df:aK)(args:List DV)(h:aA):Option (DV×aA) :=
 match df.mode with
 | .full=>gR run df args h
 | .fresh=>match gR run df args {h with lim:=h.n} with
  | some (v,h')=>some (v,{h' with lim:=h.lim})
  | none=>none
 | .pure=>match args.mapM (resolve true h bU)with
  | some ds=>match gR run df ds {objs:=[],n:=0,lim:=0} with
   | some (v,h')=>match resolve false h' bU v with
    | some d=>if bA bU d then some (d,h)else none
    | none=>none
   | none=>none
  | none=>none
 | .split=>match args with
  | .sl id sz off len::rest=>match h.get id with
   | some (.arr ety dK xs none)=>if sz=dK∧h.lim≤id then jM run df rest id sz off len ety xs h else none
   | _=>gR run df args h
  | _=>gR run df args h
 | .frz=>match sD fP h args with
  | some (as,h1)=>match as.mapM (resolve true h1 bU)with
   | some ds=>match gR run df ds {objs:=[],n:=0,lim:=0} with
    | some (v,h')=>match resolve false h' bU v with
     | some d=>if bA bU d then some (d,h1)else none
     | none=>none
    | none=>none
   | none=>none
  | none=>none
theorem uQ(run:uY)(D:bX)(f:Nat)(args:List DV)(h:aA) :
  enter run D f args h=match D.hook f with
   | some hk=>hk h args
   | none=>match D.fn f with
    | none=>none
    | some df=>dI run df args h:=by
 unfold enter
 cases D.hook f with
 | some hk=>rfl
 | none =>
  cases D.fn f with
  | none=>rfl
  | some df =>
   simp only
   unfold dI
   cases df.mode<;>rfl
theorem Yr{r1 r2:uY}(hr:mW r1 r2){df:aK}{args:List DV}{h:aA}{r:DV×aA}(hs:dI r1 df args h=some r):dI r2 df args h=some r:=by
 unfold dI at hs ⊢
 split at hs
 ·exact oU hr hs
 ·split at hs
  ·rename_i v h' h1
   rw[oU hr h1];exact hs
  ·cases hs
 ·split at hs
  ·split at hs
   ·rename_i h1
    rw[oU hr h1];exact hs
   ·cases hs
  ·cases hs
 ·split at hs
  ·split at hs
   ·split at hs
    ·rename_i hc
     rw[if_pos hc]
     exact Qt hr hs
    ·cases hs
   ·rename_i cQ
    exact oU hr hs
  ·exact oU hr hs
 ·split at hs
  ·split at hs
   ·split at hs
    ·rename_i h1
     rw[oU hr h1];exact hs
    ·cases hs
   ·cases hs
  ·cases hs
theorem iT{r1 r2:uY}(hr:mW r1 r2)(D:bX):pE (enter r1 D) (enter r2 D):=by
 intro f args h r hs
 rw[uQ]at hs ⊢
 split at hs
 ·exact hs
 ·split at hs
  ·cases hs
  ·exact Yr hr hs
theorem S9{c1 c2:fF}{r1 r2:uY}(hc:pE c1 c2)(hr:mW r1 r2){it nx ok en X Y p:Nat}{ops:List aJ}{b:aI}:∀(l:List (DV×DV)) {env:Env} {h:aA} {e:Ex} {aU:Env} {h':aA},
  rounds c1 r1 it nx ok en X Y p ops b l env h=.ok e aU h'→rounds c2 r2 it nx ok en X Y p ops b l env h=.ok e aU h':=by
 intro l
 induction l with
 | nil=>intro env h e aU h' he;exact he
 | cons x r ih =>
  intro env h e aU h' he
  obtain⟨k,v⟩:=x
  simp only[rounds]at he ⊢
  split at he
  ·split at he
   ·rename_i bV
    rw[if_pos bV]
    split at he
    ·rename_i h2
     rw[vH hc _ h2]
     simp only
     split at he
     ·rename_i h3;rw[hr _ _ _ _ _ _ h3];exact ih he
     ·rename_i h3
      rw[hr _ _ _ _ _ _ h3]
      simp only
      split at he
      ·rename_i hi;rw[if_pos hi];exact ih he
      ·rename_i hi;rw[if_neg hi];exact he
     ·rename_i h3 h4
      rw[hr _ _ _ _ _ _ he]
      cases e with
      | normal=>exact absurd he (h3 _ _)
      | exit i=>exact absurd he (h4 _ _ _)
      | ret=>rfl
    ·cases he
   ·cases he
  ·cases he
theorem Jg{c1 c2:fF}{r1 r2:uY}(hc:pE c1 c2)(hr:mW r1 r2){it nx ok en X Y m:Nat}{kl:List Nat}{ops:List aJ}{b:aI}{es p:List (DV×DV)}{env:Env}{h:aA}{e:Ex}{aU:Env}{h':aA}
  (he:nX c1 r1 it nx ok en X Y kl ops b m es env h p=.ok e aU h'):nX c2 r2 it nx ok en X Y kl ops b m es env h p=.ok e aU h':=by
 unfold nX at he ⊢
 cases BS:rounds c1 r1 it nx ok en X Y h.n ops b p (env.set it (.ptr h.n 0 0 0)) (qT h m)with
 | fail=>rw[BS]at he;cases he
 | ok e1 env1 h1=>rw[S9 hc hr _ BS,←BS];exact he
theorem MZ{e:Ex}{env:Env}{h:aA}{r:Res}(hs:AG e env h r=true):∃ e1 env1 h1,r=.ok e1 env1 h1:=by
 cases r with
 | fail=>cases hs
 | ok e1 env1 h1=>exact⟨_,_,_,rfl⟩
theorem CE{c1 c2:fF}{r1 r2:uY}(hc:pE c1 c2)(hr:mW r1 r2){it nx ok en X Y:Nat}{kl:List Nat}{ops:List aJ}{b:aI}{env:Env}{h:aA}{x:Option (Nat×List (DV×DV))}{e:Ex}{aU:Env}{h':aA}
  (he:Dv c1 r1 it nx ok en X Y kl ops b env h x=.ok e aU h'):Dv c2 r2 it nx ok en X Y kl ops b env h x=.ok e aU h':=by
 cases x with
 | none=>cases he
 | some x =>
  obtain⟨m,es⟩:=x
  simp only[Dv]at he ⊢
  split at he
  ·rename_i h3
   rw[Jg hc hr h3]
   simp only
   split at he
   ·rename_i gB
    rw[if_pos]
    ·exact he
    ·refine List.all_eq_true.2 fun p hp=>?_
     have:=List.all_eq_true.1 gB p hp
     obtain⟨e1,env1,h1,h4⟩:=MZ this
     rw[Jg hc hr h4,←h4];exact this
   ·cases he
  ·cases he
theorem Om(D:bX):∀n,mW (dB D n) (dB D (n+1)):=by
 intro n
 induction n with
 | zero=>intro c env h e aU h' he;cases he
 | succ n ih =>
  intro c env h e aU h' he
  cases c<;>unfold dB at he<;>unfold dB<;>simp only at he ⊢
  case skip=>exact he
  case exit=>exact he
  case ret=>exact he
  case seq a b =>
   split at he
   ·rename_i h1
    rw[ih _ _ _ _ _ _ h1];exact ih _ _ _ _ _ _ he
   ·rename_i cQ
    rw[ih _ _ _ _ _ _ he]
    cases e with
    | normal=>exact absurd he (cQ _ _)
    | _=>rfl
  case cond c a b =>
   split at he
   ·exact ih _ _ _ _ _ _ he
   ·exact ih _ _ _ _ _ _ he
   ·cases he
  case block id b =>
   split at he
   ·rename_i h1
    rw[ih _ _ _ _ _ _ h1];exact he
   ·rename_i cQ
    rw[ih _ _ _ _ _ _ he]
    cases e with
    | exit i=>exact absurd he (cQ _ _ _)
    | _=>rfl
  case loop b =>
   split at he
   ·rename_i h1
    rw[ih _ _ _ _ _ _ h1];exact ih _ _ _ _ _ _ he
   ·rename_i cQ
    rw[ih _ _ _ _ _ _ he]
    cases e with
    | normal=>exact absurd he (cQ _ _)
    | _=>rfl
  case region ops =>
   split at he
   ·rename_i h1
    rw[vH (iT ih D) _ h1];exact he
   ·cases he
  case draw ops =>
   split at he
   ·rename_i h1
    rw[rU (iT ih D) _ h1];exact he
   ·cases he
  case walk x it nx ok en X Y kl ops b=>exact CE (iT ih D) ih he
theorem gN(D:bX){n m:Nat}(h:n≤m):mW (dB D n) (dB D m):=by
 induction h with
 | refl=>exact .refl _
 | step _ ih=>exact ih.trans (Om D _)
open Classical in
noncomputable def ev(D:bX):uY:=fun c env h =>
 if hx:∃ x:Nat×Ex×Env×aA,dB D x.1 c env h=.ok x.2.1 x.2.2.1 x.2.2.2 then .ok hx.choose.2.1 hx.choose.2.2.1 hx.choose.2.2.2 else .fail
theorem eB{D:bX}{c:aI}{env:Env}{h:aA}{e:Ex}{aU:Env}{h':aA}:ev D c env h=.ok e aU h'↔∃ n,dB D n c env h=.ok e aU h':=by
 unfold ev
 constructor
 ·intro hs
  split at hs
  ·rename_i hx
   have:=hx.choose_spec
   exact⟨_,this.trans hs⟩
  ·cases hs
 ·rintro⟨n,hn⟩
  have hx:∃ x:Nat×Ex×Env×aA,dB D x.1 c env h=.ok x.2.1 x.2.2.1 x.2.2.2:=⟨⟨n,e,aU,h'⟩,hn⟩
  rw[dif_pos hx]
  have h1:=gN D (Nat.le_max_left n hx.choose.1) _ _ _ _ _ _ hn
  have h2:=gN D (Nat.le_max_right n hx.choose.1) _ _ _ _ _ _ hx.choose_spec
  rw[h1]at h2
  exact h2.symm
theorem Gm(D:bX)(n:Nat):mW (dB D n) (ev D):=fun _ _ _ _ _ _ h=>eB.2 ⟨n,h⟩
theorem vI{a b:Res}(h:∀e env h,a=.ok e env h↔b=.ok e env h):a=b:=by
 cases a with
 | fail=>cases b with
  | fail=>rfl
  | ok e env h0=>exact((h e env h0).2 rfl)
 | ok e env h0=>exact((h e env h0).1 rfl).symm
noncomputable def fc(D:bX):fF:=enter (ev D) D
theorem iS{D:bX}{df:aK}{args:List DV}{h:aA}{r:DV×aA}(hs:gR (ev D) df args h=some r):∃ n,gR (dB D n) df args h=some r:=by
 cases hv:ev D df.body (args++List.replicate (df.ntmps-args.length) bK) h with
 | fail=>unfold gR at hs;rw[hv]at hs;cases hs
 | ok e env h' =>
  obtain⟨n,hn⟩:=eB.1 hv
  refine⟨n,?_⟩
  unfold gR at hs ⊢
  rw[hv]at hs
  rw[hn]
  exact hs
theorem yR{D:bX}{df:aK}{rest:List DV}{id sz off len ety:Nat}{xs:List DV}{h:aA}{e:Nat}{cap:Option Nat}{l:List DV}(hs:gZ (ev D) df rest id sz off len ety xs h e cap=some l) :
  ∃ n,gZ (dB D n) df rest id sz off len ety xs h e cap=some l:=by
 unfold gZ at hs
 cases hg:gR (ev D) df (.sl h.n sz off len::rest) {(h.set id .dead).push (.arr ety sz (xs++List.replicate e .unk) cap)with lim:=h.n} with
 | none=>rw[hg]at hs;simp[nZ]at hs
 | some r =>
  obtain⟨n,hn⟩:=iS hg
  refine⟨n,?_⟩
  unfold gZ
  rw[hn,←hg];exact hs
theorem Eh{D:bX}{df:aK}{rest:List DV}{id sz off len ety:Nat}{xs:List DV}{h:aA}{r:DV×aA}(hs:jM (ev D) df rest id sz off len ety xs h=some r) :
  ∃ n,jM (dB D n) df rest id sz off len ety xs h=some r:=by
 unfold jM at hs
 split at hs
 ·rename_i l hl
  split at hs
  ·rename_i gB
   obtain⟨n0,hn0⟩:=yR hl
   have many:∀es:List Nat,(es.all fun e=>match gZ (ev D) df rest id sz off len ety xs h e (some (xs.length+e))with|some l'=>tA l l'|none=>false)=true →
     ∃ n,(es.all fun e=>match gZ (dB D n) df rest id sz off len ety xs h e (some (xs.length+e))with|some l'=>tA l l'|none=>false)=true:=by
    intro es
    induction es with
    | nil=>intro _;exact⟨0,rfl⟩
    | cons e es ih =>
     intro ha
     simp only[List.all_cons,Bool.and_eq_true]at ha
     obtain⟨n1,h1⟩:=ih ha.2
     have h2:=ha.1
     split at h2
     ·rename_i l' Vn
      obtain⟨n2,h3⟩:=yR Vn
      refine⟨max n1 n2,?_⟩
      simp only[List.all_cons,Bool.and_eq_true]
      refine⟨by rw[nR (gN D (Nat.le_max_right n1 n2)) h3];exact h2,List.all_eq_true.2 fun e he=>?_⟩
      have:=List.all_eq_true.1 h1 e he
      split at this
      ·rename_i l2 Vm
       rw[nR (gN D (Nat.le_max_left n1 n2)) Vm];exact this
      ·cases this
     ·cases h2
   obtain⟨n1,hn1⟩:=many _ gB
   refine⟨max n0 n1,?_⟩
   unfold jM
   rw[nR (gN D (Nat.le_max_left n0 n1)) hn0]
   simp only
   rw[if_pos]
   ·exact hs
   ·refine List.all_eq_true.2 fun e he=>?_
    have:=List.all_eq_true.1 hn1 e he
    split at this
    ·rename_i l2 Vm
     rw[nR (gN D (Nat.le_max_right n0 n1)) Vm];exact this
    ·cases this
  ·cases hs
 ·cases hs
theorem Ic{D:bX}{df:aK}{args:List DV}{h:aA}{r:DV×aA}(hs:dI (ev D) df args h=some r):∃ n,dI (dB D n) df args h=some r:=by
 unfold dI at hs
 split at hs
 ·rename_i hm
  obtain⟨n,hn⟩:=iS hs
  exact⟨n,by unfold dI;rw[hm];exact hn⟩
 ·rename_i hm
  split at hs
  ·rename_i v h' h1
   obtain⟨n,hn⟩:=iS h1
   exact⟨n,by unfold dI;rw[hm];simp only;rw[hn];exact hs⟩
  ·cases hs
 ·rename_i hm
  split at hs
  ·rename_i ds Ci
   split at hs
   ·rename_i v h' h1
    obtain⟨n,hn⟩:=iS h1
    exact⟨n,by unfold dI;rw[hm];simp only;rw[Ci];simp only;rw[hn];exact hs⟩
   ·cases hs
  ·cases hs
 ·rename_i hm
  split at hs
  ·rename_i id sz off len rest
   split at hs
   ·rename_i ety dK xs hg
    split at hs
    ·rename_i hc
     obtain⟨n,hn⟩:=Eh hs
     exact⟨n,by unfold dI;rw[hm];simp only;rw[hg];simp only;rw[if_pos hc];exact hn⟩
    ·cases hs
   ·rename_i cQ
    obtain⟨n,hn⟩:=iS hs
    refine⟨n,?_⟩
    unfold dI
    rw[hm]
    simp only
    exact hn
  ·rename_i cQ
   obtain⟨n,hn⟩:=iS hs
   refine⟨n,?_⟩
   unfold dI
   rw[hm]
   simp only
   exact hn
 ·rename_i hm
  split at hs
  ·rename_i as h1 ea
   split at hs
   ·rename_i ds Ci
    split at hs
    ·rename_i v h' h2
     obtain⟨n,hn⟩:=iS h2
     exact⟨n,by unfold dI;rw[hm];simp only;rw[ea];simp only;rw[Ci];simp only;rw[hn];exact hs⟩
    ·cases hs
   ·cases hs
  ·cases hs
theorem Ds{D:bX}{f:Nat}{args:List DV}{h:aA}{r:DV×aA}:fc D f args h=some r↔∃ n,Uq D n f args h=some r:=by
 constructor
 ·intro hs
  unfold fc at hs
  rw[uQ]at hs
  split at hs
  ·rename_i hk hh
   exact⟨0,by unfold Uq;rw[uQ,hh];exact hs⟩
  ·rename_i hh
   split at hs
   ·cases hs
   ·rename_i df hdf
    obtain⟨n,hn⟩:=Ic hs
    exact⟨n,by unfold Uq;rw[uQ,hh,hdf];exact hn⟩
 ·rintro⟨n,hn⟩
  exact iT (Gm D n) D f args h r hn
theorem Gy(D:bX)(n:Nat):pE (enter (dB D n) D) (fc D):=iT (Gm D n) D
theorem pU{D:bX}{o:DOp}{env:Env}{h:aA}{r:DV×aA}(hs:bD (fc D) o env h=some r):∃ n,bD (enter (dB D n) D) o env h=some r:=by
 cases o
 case call f args =>
  simp only[bD]at hs ⊢
  split at hs
  ·exact Ds.1 hs
  ·cases hs
 all_goals exact⟨0,hs⟩
theorem Og{D:bX}{l:Nat}{o:DOp}{env:Env}{h:aA}{r:DV×aA}(hs:kY (fc D) l o env h=some r):∃ n,kY (enter (dB D n) D) l o env h=some r:=by
 unfold kY at hs
 split at hs
 ·rename_i v h' h1
  obtain⟨n,hn⟩:=pU h1
  exact⟨n,by unfold kY;rw[hn];exact hs⟩
 ·cases hs
theorem Gs{D:bX}{l q:Nat}{L:cC}{o:DOp}{env:Env}{h:aA}{r:DV×aA×cC}(hs:cL (fc D) l q L o env h=some r):∃ n,cL (enter (dB D n) D) l q L o env h=some r:=by
 unfold cL at hs
 split at hs
 ·rename_i id hp
  exact⟨0,by unfold cL;rw[hp];exact hs⟩
 ·rename_i hp
  split at hs
  ·rename_i hpo
   unfold kU at hs
   split at hs
   ·split at hs
    ·rename_i h1
     obtain⟨n,hn⟩:=pU h1
     exact⟨n,by unfold cL;rw[hp];simp only;rw[hpo];simp only[kU];rw[hn];exact hs⟩
    ·cases hs
   ·cases hs
  ·rename_i hpo
   split at hs
   ·rename_i v h' h1
    obtain⟨n,hn⟩:=Og h1
    exact⟨n,by unfold cL;rw[hp];simp only;rw[hpo];simp only;rw[hn];exact hs⟩
   ·cases hs
theorem Mo{D:bX}:∀(ops:List aJ) {env:Env} {h:aA} {r:Env×aA},eQ (fc D) ops env h=some r→∃ n,eQ (enter (dB D n) D) ops env h=some r:=by
 intro ops
 induction ops with
 | nil=>intro env h r hs;exact⟨0,hs⟩
 | cons o ops ih =>
  intro env h r hs
  simp only[eQ]at hs
  split at hs
  ·rename_i hw
   split at hs
   ·rename_i v h' h1
    obtain⟨n1,k1⟩:=pU h1
    obtain⟨n2,k2⟩:=ih hs
    refine⟨max n1 n2,?_⟩
    simp only[eQ,hw]
    rw[qX (iT (gN D (Nat.le_max_left n1 n2)) D) k1]
    exact vH (iT (gN D (Nat.le_max_right n1 n2)) D) _ k2
   ·cases hs
  ·rename_i hw
   obtain⟨n2,k2⟩:=ih hs
   exact⟨n2,by simp only[eQ,hw];exact k2⟩
  ·cases hs
theorem Hs{D:bX}:∀(ops:List aJ) {env:Env} {hs:List aA} {L:cC} {r:Env×aA},dH (fc D) ops env hs L=some r→∃ n,dH (enter (dB D n) D) ops env hs L=some r:=by
 intro ops
 induction ops with
 | nil=>intro env h L r hs;exact⟨0,hs⟩
 | cons o ops ih =>
  intro env hs L r he
  cases hs with
  | nil=>simp[dH]at he
  | cons h hs =>
   simp only[dH]at he
   split at he
   ·cases he
   ·rename_i hw
    split at he
    ·rename_i hk
     split at he
     ·rename_i Pm
      split at he
      ·rename_i h0 hsn
       split at he
       ·rename_i v h1 cW
        obtain⟨n,hn⟩:=ih he
        exact⟨n,by simp only[dH,hw,hk,hsn,cW,if_pos Pm];exact hn⟩
       ·cases he
      ·cases he
     ·cases he
    ·rename_i hk
     split at he
     ·rename_i v h' h1
      obtain⟨n1,k1⟩:=pU h1
      obtain⟨n2,k2⟩:=ih he
      refine⟨max n1 n2,?_⟩
      simp only[dH,hw,hk]
      rw[qX (iT (gN D (Nat.le_max_left n1 n2)) D) k1]
      exact rU (iT (gN D (Nat.le_max_right n1 n2)) D) _ k2
     ·cases he
    ·rename_i hk
     split at he
     ·rename_i h0 hsn
      split at he
      ·rename_i v h' L' h1
       obtain⟨n1,k1⟩:=Gs h1
       obtain⟨n2,k2⟩:=ih he
       refine⟨max n1 n2,?_⟩
       simp only[dH,hw,hk,hsn]
       rw[Cm (iT (gN D (Nat.le_max_left n1 n2)) D) k1]
       exact rU (iT (gN D (Nat.le_max_right n1 n2)) D) _ k2
      ·cases he
     ·cases he
   ·rename_i hw
    obtain⟨n2,k2⟩:=ih he
    exact⟨n2,by simp only[dH,hw];exact k2⟩
section
variable (D:bX) (env:Env) (h:aA)
theorem MU:ev D .skip env h=.ok .normal env h:=eB.2 ⟨1,rfl⟩
theorem MW(id:Nat):ev D (.exit id) env h=.ok (.exit id) env h:=eB.2 ⟨1,rfl⟩
theorem TC:ev D .ret env h=.ok .ret env h:=eB.2 ⟨1,rfl⟩
theorem TB(a b:aI):ev D (.seq a b) env h=match ev D a env h with
  | .ok .normal env h=>ev D b env h
  | r=>r:=by
 apply vI
 intro e aU h'
 constructor
 ·intro hs
  obtain⟨n,hn⟩:=eB.1 hs
  cases n with
  | zero=>cases hn
  | succ n =>
   simp only[dB]at hn
   split at hn
   ·rename_i h1
    rw[eB.2 ⟨n,h1⟩]
    exact eB.2 ⟨n,hn⟩
   ·rename_i cQ
    rw[eB.2 ⟨n,hn⟩]
    cases e with
    | normal=>exact absurd hn (cQ _ _)
    | _=>rfl
 ·intro hs
  split at hs
  ·rename_i env1 h1 hv
   obtain⟨n1,k1⟩:=eB.1 hv
   obtain⟨n2,k2⟩:=eB.1 hs
   refine eB.2 ⟨max n1 n2+1,?_⟩
   simp only[dB]
   rw[gN D (Nat.le_max_left n1 n2) _ _ _ _ _ _ k1]
   exact gN D (Nat.le_max_right n1 n2) _ _ _ _ _ _ k2
  ·rename_i cQ
   obtain⟨n1,k1⟩:=eB.1 hs
   refine eB.2 ⟨n1+1,?_⟩
   simp only[dB]
   rw[k1]
   cases e with
   | normal=>exact absurd hs (cQ _ _)
   | _=>rfl
theorem MY(c:Opd)(a b:aI):ev D (.cond c a b) env h=match c.eval env with
  | .bool true=>ev D a env h
  | .bool false=>ev D b env h
  | _=>.fail:=by
 apply vI
 intro e aU h'
 constructor
 ·intro hs
  obtain⟨n,hn⟩:=eB.1 hs
  cases n with
  | zero=>cases hn
  | succ n =>
   simp only[dB]at hn
   split at hn
   ·rename_i hc;rw[hc];exact eB.2 ⟨n,hn⟩
   ·rename_i hc;rw[hc];exact eB.2 ⟨n,hn⟩
   ·cases hn
 ·intro hs
  split at hs
  ·rename_i hc
   obtain⟨n1,k1⟩:=eB.1 hs
   exact eB.2 ⟨n1+1,by simp only[dB,hc];exact k1⟩
  ·rename_i hc
   obtain⟨n1,k1⟩:=eB.1 hs
   exact eB.2 ⟨n1+1,by simp only[dB,hc];exact k1⟩
  ·cases hs
theorem HD(id:Nat)(b:aI):ev D (.block id b) env h=match ev D b env h with
  | .ok (.exit id') env h=>if id'=id then .ok .normal env h else .ok (.exit id') env h
  | r=>r:=by
 apply vI
 intro e aU h'
 constructor
 ·intro hs
  obtain⟨n,hn⟩:=eB.1 hs
  cases n with
  | zero=>cases hn
  | succ n =>
   simp only[dB]at hn
   split at hn
   ·rename_i h1
    rw[eB.2 ⟨n,h1⟩]
    exact hn
   ·rename_i cQ
    rw[eB.2 ⟨n,hn⟩]
    cases e with
    | exit i=>exact absurd hn (cQ _ _ _)
    | _=>rfl
 ·intro hs
  split at hs
  ·rename_i h1
   obtain⟨n1,k1⟩:=eB.1 h1
   exact eB.2 ⟨n1+1,by simp only[dB];rw[k1];exact hs⟩
  ·rename_i cQ
   obtain⟨n1,k1⟩:=eB.1 hs
   refine eB.2 ⟨n1+1,?_⟩
   simp only[dB]
   rw[k1]
   cases e with
   | exit i=>exact absurd hs (cQ _ _ _)
   | _=>rfl
theorem MV(b:aI):ev D (.loop b) env h=match ev D b env h with
  | .ok .normal env h=>ev D (.loop b) env h
  | r=>r:=by
 apply vI
 intro e aU h'
 constructor
 ·intro hs
  obtain⟨n,hn⟩:=eB.1 hs
  cases n with
  | zero=>cases hn
  | succ n =>
   simp only[dB]at hn
   split at hn
   ·rename_i h1
    rw[eB.2 ⟨n,h1⟩]
    exact eB.2 ⟨n,hn⟩
   ·rename_i cQ
    rw[eB.2 ⟨n,hn⟩]
    cases e with
    | normal=>exact absurd hn (cQ _ _)
    | _=>rfl
 ·intro hs
  split at hs
  ·rename_i env1 h1 hv
   obtain⟨n1,k1⟩:=eB.1 hv
   obtain⟨n2,k2⟩:=eB.1 hs
   refine eB.2 ⟨max n1 n2+1,?_⟩
   simp only[dB]
   rw[gN D (Nat.le_max_left n1 n2) _ _ _ _ _ _ k1]
   exact gN D (Nat.le_max_right n1 n2) _ _ _ _ _ _ k2
  ·rename_i cQ
   obtain⟨n1,k1⟩:=eB.1 hs
   refine eB.2 ⟨n1+1,?_⟩
   simp only[dB]
   rw[k1]
   cases e with
   | normal=>exact absurd hs (cQ _ _)
   | _=>rfl
theorem AF(ops:List aJ):ev D (.region ops) env h=match eQ (fc D) ops env h with
  | some (env,h)=>.ok .normal env h
  | none=>.fail:=by
 apply vI
 intro e aU h'
 constructor
 ·intro hs
  obtain⟨n,hn⟩:=eB.1 hs
  cases n with
  | zero=>cases hn
  | succ n =>
   simp only[dB]at hn
   split at hn
   ·rename_i h1
    rw[vH (Gy D n) _ h1];exact hn
   ·cases hn
 ·intro hs
  split at hs
  ·rename_i h1
   obtain⟨n1,k1⟩:=Mo _ h1
   exact eB.2 ⟨n1+1,by simp only[dB];rw[k1];exact hs⟩
  ·cases hs
theorem MX(ops:List aJ):ev D (.draw ops) env h=match dH (fc D) ops env [h] .start with
  | some (env,h)=>.ok .normal env h
  | none=>.fail:=by
 apply vI
 intro e aU h'
 constructor
 ·intro hs
  obtain⟨n,hn⟩:=eB.1 hs
  cases n with
  | zero=>cases hn
  | succ n =>
   simp only[dB]at hn
   split at hn
   ·rename_i h1
    rw[rU (Gy D n) _ h1];exact hn
   ·cases hn
 ·intro hs
  split at hs
  ·rename_i h1
   obtain⟨n1,k1⟩:=Hs _ h1
   exact eB.2 ⟨n1+1,by simp only[dB];rw[k1];exact hs⟩
  ·cases hs
theorem Tq(f:Nat)(args:List DV):fc D f args h=match D.hook f with
  | some hk=>hk h args
  | none=>match D.fn f with
   | none=>none
   | some df=>dI (ev D) df args h:=uQ _ _ _ _ _
end
end Go.Dm
/-
Part 2 of "Dw": the same with what is still to be done laid in a row, and the slots by number: each step is one equation.
-/
namespace Go.Dm
abbrev dX:=Nat→DV
def tab(N:Nat)(f:dX):Env:=(List.range N).map f
def upd(f:dX)(d:Nat)(v:DV):dX:=fun i=>if i=d then v else f i
def qV(f:dX)(dst:Option Nat)(v:DV):dX:=match dst with|some d=>upd f d v|none=>f
def rd(N:Nat)(f:dX)(i:Nat):DV:=if i<N then f i else .unk
def IB(args:List DV):dX:=fun i=>args.getD i bK
theorem vG(N:Nat)(f:dX)(i:Nat):(tab N f)[i]?=if i<N then some (f i)else none:=by
 by_cases h:i<N
 ·simp[tab,h]
 ·simp only[tab,List.getElem?_map,if_neg h]
  rw[List.getElem?_eq_none (by simp;omega)];rfl
theorem Dy(N:Nat)(f:dX)(i:Nat):((tab N f)[i]?).getD .unk=rd N f i:=by
 rw[vG];unfold rd;split<;>rfl
theorem JM(N:Nat)(f:dX)(d:Nat)(v:DV):(tab N f).set d v=tab N (upd f d v):=by
 apply List.ext_getElem?
 intro i
 rw[List.getElem?_set,vG,vG]
 simp only[tab,List.length_map,List.length_range,upd]
 by_cases e:d=i
 ·subst e
  by_cases h:d<N<;>simp[h]
 ·have e':¬i=d:=fun q=>e q.symm
  simp only[if_neg e,if_neg e']
theorem pQ(N:Nat)(f:dX)(dst:Option Nat)(v:DV):put (tab N f) dst v=tab N (qV f dst v):=by
 cases dst with
 | none=>rfl
 | some d=>exact JM N f d v
theorem CS(N:Nat)(args:List DV)(h:args.length≤N):args++List.replicate (N-args.length) bK=tab N (IB args):=by
 apply List.ext_getElem?
 intro i
 rw[vG,List.getElem?_append]
 unfold IB
 by_cases h1:i<args.length
 ·rw[if_pos h1,if_pos (by omega)]
  simp[h1]
 ·rw[if_neg h1]
  by_cases h2:i<N
  ·rw[if_pos h2,List.getElem?_replicate,if_pos (by omega),List.getD_eq_getElem?_getD,List.getElem?_eq_none (by omega)];rfl
  ·rw[if_neg h2,List.getElem?_replicate,if_neg (by omega)]
theorem SZ(N:Nat)(f:dX)(i:Nat):Opd.eval (tab N f) (.t i)=rd N f i:=Dy N f i
theorem TA(env:Env)(v:DV):Opd.eval env (.c v)=v:=rfl
inductive Fr where
 | seq (b:aI)
 | block (id:Nat)
 | loop (b:aI)
noncomputable def xB(D:bX):List Fr→Ex→Env→aA→Res
 | [],e,env,h=>.ok e env h
 | .seq b::S,e,env,h=>match e with
  | .normal=>match ev D b env h with
   | .ok e env h=>xB D S e env h
   | .fail=>.fail
  | e=>xB D S e env h
 | .block id::S,e,env,h=>xB D S (match e with|.exit i=>if i=id then .normal else .exit i|e=>e) env h
 | .loop b::S,e,env,h=>match e with
  | .normal=>match ev D (.loop b) env h with
   | .ok e env h=>xB D S e env h
   | .fail=>.fail
  | e=>xB D S e env h
noncomputable def after(D:bX)(S:List Fr):Res→Res
 | .ok e env h=>xB D S e env h
 | .fail=>.fail
noncomputable def run(D:bX)(N:Nat)(S:List Fr)(c:aI)(f:dX)(h:aA):Res:=after D S (ev D c (tab N f) h)
noncomputable def ret(D:bX)(N:Nat)(S:List Fr)(e:Ex)(f:dX)(h:aA):Res:=xB D S e (tab N f) h
noncomputable def EL(D:bX)(N:Nat)(S:List Fr)(a b:aI)(f:dX)(h:aA):DV→Res
 | .bool true=>run D N S a f h
 | .bool false=>run D N S b f h
 | _=>.fail
noncomputable def yT(D:bX)(N:Nat)(S:List Fr)(ops:List aJ)(f:dX)(h:aA):Res :=
 match eQ (fc D) ops (tab N f) h with
 | some (env,h)=>xB D S .normal env h
 | none=>.fail
noncomputable def S1(D:bX)(N:Nat)(S:List Fr)(dst:Option Nat)(r:List aJ)(f:dX):Option (DV×aA)→Res
 | some (v,h)=>yT D N S r (qV f dst v) h
 | none=>.fail
noncomputable def S4(D:bX)(N:Nat)(S:List Fr)(o:aJ)(w:Bool)(r:List aJ)(f:dX)(h:aA):DV→Res
 | .bool b=>if b=w then S1 D N S o.dst r f (bD (fc D) o.op (tab N f) h)else yT D N S r (qV f o.dst bK) h
 | .tup _=>yT D N S r (qV f o.dst bK) h
 | _=>.fail
noncomputable def tJ(D:bX)(N:Nat)(S:List Fr)(ops:List aJ)(f:dX)(hs:List aA)(L:cC):Res :=
 match dH (fc D) ops (tab N f) hs L with
 | some (env,h)=>xB D S .normal env h
 | none=>.fail
noncomputable def J6(D:bX)(N:Nat)(S:List Fr)(dst:Option Nat)(r:List aJ)(f:dX)(hs:List aA)(L:cC):Option (DV×aA)→Res
 | some (v,_)=>tJ D N S r (qV f dst v) hs L
 | none=>.fail
noncomputable def J5(D:bX)(N:Nat)(S:List Fr)(dst:Option Nat)(r:List aJ)(f:dX)(hs:List aA)(L:cC):Option (DV×aA)→Res
 | some (v,h)=>tJ D N S r (qV f dst v) (h::hs) L
 | none=>.fail
noncomputable def J4(D:bX)(N:Nat)(S:List Fr)(dst:Option Nat)(r:List aJ)(f:dX)(hs:List aA):Option (DV×aA×cC)→Res
 | some (v,h,L)=>tJ D N S r (qV f dst v) (h::hs) L
 | none=>.fail
noncomputable def Rh(D:bX)(N:Nat)(S:List Fr)(dst:Option Nat)(op:DOp)(cm:Bool)(r:List aJ)(f:dX)(hs:List aA)(L:cC):Option aA→Res
 | some h0=>J6 D N S dst r f hs (L.see cm (mark (tab N f) op)) (aB h0 (tab N f) op)
 | none=>.fail
noncomputable def J7(D:bX)(N:Nat)(S:List Fr)(dst:Option Nat)(op:DOp)(r:List aJ)(f:dX)(h:aA)(gs:List aA)(L:cC):Option aA→Res
 | some h0=>J4 D N S dst r f (h::gs) (cL (fc D) h0.n gs.length L op (tab N f) h)
 | none=>.fail
noncomputable def yU(D:bX)(N:Nat)(S:List Fr)(dst:Option Nat)(op:DOp)(snap:Nat)(cm:Bool)(r:List aJ)(f:dX)(hs:List aA)(L:cC):rK→Res
 | .read=>if L.free snap (bN (tab N f) op)=true then Rh D N S dst op cm r f hs L (gY hs snap)else .fail
 | .write=>match hs with
  | h::_=>J5 D N S dst r f hs L (bD (fc D) op (tab N f) h)
  | []=>.fail
 | .create=>match hs with
  | h::gs=>J7 D N S dst op r f h gs L (gY hs snap)
  | []=>.fail
noncomputable def wQ(D:bX)(N:Nat)(S:List Fr)(dst:Option Nat)(k:rK)(r:List aJ)(f:dX)(L:cC):List aA→Res
 | h::hs=>tJ D N S r (qV f dst bK) (if k=.read then h::hs else h::h::hs) L
 | []=>.fail
noncomputable def Rj(D:bX)(N:Nat)(S:List Fr)(o:aJ)(w:Bool)(r:List aJ)(f:dX)(hs:List aA)(L:cC):DV→Res
 | .bool b=>if b=w then yU D N S o.dst o.op o.snap o.calm r f hs L o.kind else wQ D N S o.dst o.kind r f L hs
 | .tup _=>wQ D N S o.dst o.kind r f L hs
 | _=>.fail
noncomputable def N6(D:bX)(as:List DV)(h:aA):DV→Option (DV×aA)
 | .func g cap=>fc D g (as++cap) h
 | _=>none
section
variable (D:bX) (N:Nat) (S:List Fr) (f:dX) (h:aA)
theorem EC:run D N S .skip f h=ret D N S .normal f h:=by unfold run;rw[MU];rfl
theorem EE(id:Nat):run D N S (.exit id) f h=ret D N S (.exit id) f h:=by unfold run;rw[MW];rfl
theorem KG:run D N S .ret f h=ret D N S .ret f h:=by unfold run;rw[TC];rfl
theorem KF(a b:aI):run D N S (.seq a b) f h=run D N (.seq b::S) a f h:=by
 unfold run
 rw[TB]
 cases ev D a (tab N f) h with
 | fail=>rfl
 | ok e env h1 =>
  cases e<;>simp only[after,xB]
theorem EG(c:Opd)(a b:aI):run D N S (.cond c a b) f h=EL D N S a b f h (c.eval (tab N f)):=by
 unfold run
 rw[MY]
 unfold EL
 split<;>simp_all[run,after]
theorem R9(id:Nat)(b:aI):run D N S (.block id b) f h=run D N (.block id::S) b f h:=by
 unfold run
 rw[HD]
 cases ev D b (tab N f) h with
 | fail=>rfl
 | ok e env h1 =>
  cases e with
  | exit i =>
   by_cases e:i=id
   ·simp only[after,xB,if_pos e]
   ·simp only[after,xB,if_neg e]
  | _=>rfl
theorem ED(b:aI):run D N S (.loop b) f h=run D N (.loop b::S) b f h:=by
 unfold run
 rw[MV]
 cases ev D b (tab N f) h with
 | fail=>rfl
 | ok e env h1 =>
  cases e<;>simp only[after,xB]
theorem Xc(ops:List aJ):run D N S (.region ops) f h=yT D N S ops f h:=by
 unfold run yT
 rw[AF]
 cases eQ (fc D) ops (tab N f) h<;>rfl
theorem EF(ops:List aJ):run D N S (.draw ops) f h=tJ D N S ops f [h] .start:=by
 unfold run tJ
 rw[MX]
 cases dH (fc D) ops (tab N f) [h] .start<;>rfl
theorem S7(a b:aI):EL D N S a b f h (.bool true)=run D N S a f h:=rfl
theorem Xo(a b:aI):EL D N S a b f h (.bool false)=run D N S b f h:=rfl
theorem EK(a b:aI)(t:Bool):EL D N S a b f h (.bool t)=if t=true then run D N S a f h else run D N S b f h:=by cases t<;>rfl
theorem KI(e:Ex):ret D N [] e f h=.ok e (tab N f) h:=rfl
theorem KH(b:aI):ret D N (.seq b::S) .normal f h=run D N S b f h:=by
 unfold ret run;simp only[xB];cases ev D b (tab N f) h<;>rfl
theorem Mv(b:aI)(i:Nat):ret D N (.seq b::S) (.exit i) f h=ret D N S (.exit i) f h:=rfl
theorem Rm(b:aI):ret D N (.seq b::S) .ret f h=ret D N S .ret f h:=rfl
theorem T4(id:Nat):ret D N (.block id::S) .normal f h=ret D N S .normal f h:=rfl
theorem Hv(id:Nat):ret D N (.block id::S) .ret f h=ret D N S .ret f h:=rfl
theorem Es(id i:Nat):ret D N (.block id::S) (.exit i) f h=ret D N S (if i=id then .normal else .exit i) f h:=rfl
theorem EM(b:aI):ret D N (.loop b::S) .normal f h=run D N S (.loop b) f h:=by
 unfold ret run;simp only[xB];cases ev D (.loop b) (tab N f) h<;>rfl
theorem Hu(b:aI)(i:Nat):ret D N (.loop b::S) (.exit i) f h=ret D N S (.exit i) f h:=rfl
theorem Mw(b:aI):ret D N (.loop b::S) .ret f h=ret D N S .ret f h:=rfl
theorem EH:yT D N S [] f h=ret D N S .normal f h:=rfl
theorem S2(dst:Option Nat)(op:DOp)(k:rK)(s:Nat)(cm:Bool)(r:List aJ) :
  yT D N S (⟨dst,op,none,k,s,cm⟩::r) f h=S1 D N S dst r f (bD (fc D) op (tab N f) h):=by
 unfold yT
 simp only[eQ,fV]
 cases bD (fc D) op (tab N f) h with
 | none=>rfl
 | some p=>simp only[S1,pQ];rfl
theorem Xd(dst:Option Nat)(op:DOp)(t:Nat)(w:Bool)(k:rK)(s:Nat)(cm:Bool)(r:List aJ) :
  yT D N S (⟨dst,op,some (t,w),k,s,cm⟩::r) f h=S4 D N S ⟨dst,op,some (t,w),k,s,cm⟩ w r f h (rd N f t):=by
 unfold yT
 simp only[eQ,fV,vG]
 unfold rd
 by_cases aZ:t<N
 ·simp only[if_pos aZ]
  cases hv:f t with
  | bool b =>
   simp only[S4]
   by_cases e:b=w
   ·subst e
    simp only[beq_self_eq_true,if_true]
    cases bD (fc D) op (tab N f) h with
    | none=>rfl
    | some p=>simp only[S1,pQ];rfl
   ·have:(b == w)=false:=by simpa using e
    simp only[this,if_neg e,pQ];rfl
  | tup l=>simp only[S4,pQ];rfl
  | _=>rfl
 ·simp only[if_neg aZ];rfl
theorem S0(dst:Option Nat)(r:List aJ)(v:DV):S1 D N S dst r f (some (v,h))=yT D N S r (qV f dst v) h:=rfl
theorem S3(o:aJ)(w:Bool)(r:List aJ)(b:Bool):S4 D N S o w r f h (.bool b)=if b=w then S1 D N S o.dst r f (bD (fc D) o.op (tab N f) h)else yT D N S r (qV f o.dst bK) h:=rfl
theorem EI(o:aJ)(w:Bool)(r:List aJ)(l:List DV):S4 D N S o w r f h (.tup l)=yT D N S r (qV f o.dst bK) h:=rfl
variable (hs:List aA) (L:cC)
theorem EJ:tJ D N S [] f (h::hs) L=ret D N S .normal f h:=rfl
theorem Jr(dst:Option Nat)(op:DOp)(k:rK)(s:Nat)(cm:Bool)(r:List aJ)(g:Option (Nat×Bool)) :
  tJ D N S (⟨dst,op,g,k,s,cm⟩::r) f (h::hs) L=(match fV (tab N f) g with
   | none=>.fail
   | some true=>yU D N S dst op s cm r f (h::hs) L k
   | some false=>wQ D N S dst k r f L (h::hs)):=by
 unfold tJ
 simp only[dH]
 cases fV (tab N f) g with
 | none=>rfl
 | some t =>
  cases t with
  | false=>simp only[wQ,pQ];rfl
  | true =>
   simp only[yU]
   cases k with
   | read =>
    simp only
    by_cases Pm:L.free s (bN (tab N f) op)=true
    ·simp only[if_pos Pm,Rh]
     cases gY (h::hs) s with
     | none=>rfl
     | some h0 =>
      simp only
      cases aB h0 (tab N f) op with
      | none=>rfl
      | some p=>simp only[J6,pQ];rfl
    ·simp only[if_neg Pm]
   | write =>
    simp only
    cases bD (fc D) op (tab N f) h with
    | none=>rfl
    | some p=>simp only[J5,pQ];rfl
   | create =>
    simp only[J7]
    cases gY (h::hs) s with
    | none=>rfl
    | some h0 =>
     simp only
     cases cL (fc D) h0.n hs.length L op (tab N f) h with
     | none=>rfl
     | some p=>simp only[J4,pQ];rfl
theorem S5(dst:Option Nat)(op:DOp)(k:rK)(s:Nat)(cm:Bool)(r:List aJ) :
  tJ D N S (⟨dst,op,none,k,s,cm⟩::r) f (h::hs) L=yU D N S dst op s cm r f (h::hs) L k:=by rw[Jr];rfl
theorem Xf(dst:Option Nat)(op:DOp)(t:Nat)(w:Bool)(k:rK)(s:Nat)(cm:Bool)(r:List aJ) :
  tJ D N S (⟨dst,op,some (t,w),k,s,cm⟩::r) f (h::hs) L=Rj D N S ⟨dst,op,some (t,w),k,s,cm⟩ w r f (h::hs) L (rd N f t):=by
 rw[Jr]
 simp only[fV,vG]
 unfold rd
 by_cases aZ:t<N
 ·simp only[if_pos aZ]
  cases hv:f t with
  | bool b =>
   simp only[Rj]
   by_cases e:b=w
   ·subst e;simp
   ·have:(b == w)=false:=by simpa using e
    simp only[this,if_neg e]
  | _=>rfl
 ·simp only[if_neg aZ];rfl
theorem Xm(o:aJ)(w:Bool)(r:List aJ)(b:Bool):Rj D N S o w r f hs L (.bool b)=if b=w then yU D N S o.dst o.op o.snap o.calm r f hs L o.kind else wQ D N S o.dst o.kind r f L hs:=rfl
theorem S6(o:aJ)(w:Bool)(r:List aJ)(l:List DV):Rj D N S o w r f hs L (.tup l)=wQ D N S o.dst o.kind r f L hs:=rfl
theorem Xj(dst:Option Nat)(r:List aJ):wQ D N S dst .read r f L (h::hs)=tJ D N S r (qV f dst bK) (h::hs) L:=rfl
theorem Re(dst:Option Nat)(r:List aJ):wQ D N S dst .write r f L (h::hs)=tJ D N S r (qV f dst bK) (h::h::hs) L:=rfl
theorem Mp(dst:Option Nat)(r:List aJ):wQ D N S dst .create r f L (h::hs)=tJ D N S r (qV f dst bK) (h::h::hs) L:=rfl
theorem Xk(dst:Option Nat)(op:DOp)(s:Nat)(cm:Bool)(r:List aJ):yU D N S dst op s cm r f hs L .read=if L.free s (bN (tab N f) op)=true then Rh D N S dst op cm r f hs L (gY hs s)else .fail:=rfl
theorem Rf(dst:Option Nat)(op:DOp)(s:Nat)(cm:Bool)(r:List aJ):yU D N S dst op s cm r f (h::hs) L .write=J5 D N S dst r f (h::hs) L (bD (fc D) op (tab N f) h):=rfl
theorem Mq(dst:Option Nat)(op:DOp)(s:Nat)(cm:Bool)(r:List aJ):yU D N S dst op s cm r f (h::hs) L .create=J7 D N S dst op r f h hs L (gY (h::hs) s):=rfl
theorem Xl(dst:Option Nat)(op:DOp)(cm:Bool)(r:List aJ)(h0:aA):Rh D N S dst op cm r f hs L (some h0)=J6 D N S dst r f hs (L.see cm (mark (tab N f) op)) (aB h0 (tab N f) op):=rfl
theorem Xn(dst:Option Nat)(op:DOp)(r:List aJ)(h0:aA):J7 D N S dst op r f h hs L (some h0)=J4 D N S dst r f (h::hs) (cL (fc D) h0.n hs.length L op (tab N f) h):=rfl
theorem Xi(dst:Option Nat)(r:List aJ)(v:DV):J6 D N S dst r f hs L (some (v,h))=tJ D N S r (qV f dst v) hs L:=rfl
theorem Xh(dst:Option Nat)(r:List aJ)(v:DV):J5 D N S dst r f hs L (some (v,h))=tJ D N S r (qV f dst v) (h::hs) L:=rfl
theorem Xg(dst:Option Nat)(r:List aJ)(v:DV):J4 D N S dst r f hs (some (v,h,L))=tJ D N S r (qV f dst v) (h::hs) L:=rfl
theorem Q9(k:Nat):gY hs k=hs.reverse[k]?:=by
 unfold gY
 split
 ·rename_i hk;rw[List.getElem?_reverse hk]
 ·rename_i hk;rw[List.getElem?_eq_none (by simp;omega)]
theorem Yj(g:Opd)(args:List Opd)(env:Env):bD (fc D) (.call g args) env h=N6 D (args.map (Opd.eval env)) h (g.eval env):=by
 simp only[bD,N6]
 split<;>simp_all
theorem C7(as:List DV)(g:Nat)(cap:List DV):N6 D as h (.func g cap)=fc D g (as++cap) h:=rfl
def fin(rs:List Jd):Res→Option (DV×aA)
 | .ok (.exit _) _ _=>none
 | .ok _ env h'=>match aV h' env rs with
  | some v=>some (v,h')
  | none=>none
 | .fail=>none
def AA(h:aA):Option DV→Option (DV×aA)
 | some v=>some (v,h)
 | none=>none
theorem MT(rs:List Jd)(env:Env):fin rs (.ok .ret env h)=AA h (aV h env rs):=by
 unfold fin AA;rfl
theorem Zx(rs:List Jd)(env:Env):fin rs (.ok .normal env h)=AA h (aV h env rs):=by
 unfold fin AA;rfl
theorem Z9(v:DV):AA h (some v)=some (v,h):=rfl
theorem aM(df:aK)(args:List DV)(hl:args.length≤df.ntmps):gR (ev D) df args h=fin df.results (run D df.ntmps [] df.body (IB args) h):=by
 unfold gR run
 rw[CS _ _ hl]
 cases ev D df.body (tab df.ntmps (IB args)) h with
 | fail=>rfl
 | ok e env h1=>cases e<;>rfl
theorem Hx(env:Env)(r:Jd):aV h env [r]=iO h env r:=rfl
theorem Xp(n:Nat):iO h (tab N f) (.t n)=some (rd N f n):=by simp only[iO,Dy]
theorem Hy(a:Nat)(n:Option Nat):iO h (tab N f) (.cell a n)=jF h n (rd N f a):=by simp only[iO,Dy]
end
def sX:aA:={objs:=[],n:=0,lim:=0}
noncomputable def iK(o:Option (DV×aA)):Option DV :=
 match o with
 | some (v,h')=>match resolve false h' bU v with
  | some d=>if bA bU d then some d else none
  | none=>none
 | none=>none
noncomputable def pcF(D:bX)(df:aK)(ds:List DV):Option DV:=iK (gR (ev D) df ds sX)
def cT(h:aA):Option DV→Option (DV×aA)
 | some d=>some (d,h)
 | none=>none
theorem xX(h:aA)(d:DV):cT h (some d)=some (d,h):=rfl
noncomputable def rI(D:bX)(df:aK)(h:aA):Option (List DV)→Option (DV×aA)
 | some ds=>cT h (pcF D df ds)
 | none=>none
theorem sS(D:bX)(df:aK)(h:aA)(ds:List DV):rI D df h (some ds)=cT h (pcF D df ds):=rfl
theorem bZ{D:bX}{f:Nat}{df:aK}(hh:D.hook f=none)(hf:D.fn f=some df)(hm:df.mode=.pure)(args:List DV)(h:aA) :
  fc D f args h=rI D df h (args.mapM (resolve true h bU)):=by
 rw[Tq,hh,hf]
 simp only
 unfold dI
 rw[hm]
 simp only
 cases args.mapM (resolve true h bU)with
 | none=>rfl
 | some ds =>
  simp only[rI,pcF,iK,sX,cT]
  cases gR (ev D) df ds {objs:=[],n:=0,lim:=0} with
  | none=>rfl
  | some p =>
   obtain⟨v,h'⟩:=p
   simp only
   cases resolve false h' bU v with
   | none=>rfl
   | some d =>
    simp only
    split<;>rfl
noncomputable def N5(D:bX)(df:aK):Option (List DV×aA)→Option (DV×aA)
 | some (as,h)=>rI D df h (as.mapM (resolve true h bU))
 | none=>none
theorem C6(D:bX)(df:aK)(as:List DV)(h:aA):N5 D df (some (as,h))=rI D df h (as.mapM (resolve true h bU)):=rfl
theorem Gl{D:bX}{f:Nat}{df:aK}(hh:D.hook f=none)(hf:D.fn f=some df)(hm:df.mode=.frz)(args:List DV)(h:aA) :
  fc D f args h=N5 D df (sD fP h args):=by
 rw[Tq,hh,hf]
 simp only
 unfold dI
 rw[hm]
 simp only
 cases sD fP h args with
 | none=>rfl
 | some p =>
  obtain⟨as,h1⟩:=p
  simp only[N5]
  cases as.mapM (resolve true h1 bU)with
  | none=>rfl
  | some ds =>
   simp only[rI,pcF,iK,sX,cT]
   cases gR (ev D) df ds {objs:=[],n:=0,lim:=0} with
   | none=>rfl
   | some p =>
    obtain⟨v,h'⟩:=p
    simp only
    cases resolve false h' bU v with
    | none=>rfl
    | some d =>
     simp only
     split<;>rfl
theorem dO{D:bX}{f:Nat}{df:aK}(hh:D.hook f=none)(hf:D.fn f=some df)(hm:df.mode=.full)(args:List DV)(h:aA) :
  fc D f args h=gR (ev D) df args h:=by
 rw[Tq,hh,hf]
 simp only
 unfold dI
 rw[hm]
theorem jA{D:bX}{f:Nat}{hk:qM}(hh:D.hook f=some hk)(args:List DV)(h:aA):fc D f args h=hk h args:=by
 rw[Tq,hh]
end Go.Dm
