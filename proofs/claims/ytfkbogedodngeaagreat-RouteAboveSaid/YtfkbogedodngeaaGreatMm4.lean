/- A part of the proof. -/
import Derived.Test.YtfkbogedodngeaaGreatMm3
import Derived.RowKit3
import Derived.Lib.Overlaps
import Derived.Lib.Bytealg
import Derived.Below
import Derived.Sort.Row
import Derived.Sort.Grow
set_option linter.all false
namespace Go.Dm
structure Kc(P:Program)(D:bV):Prop where
 mixed:P.follows .mixedOrders=true
 comp:∀f df,D.fn f=some df→∃ fn,P.funcs[f]?=some fn∧aK P fn df.mode=some df
 hooks:∀f hk,D.hook f=some hk→∀args h d h' c vals,hk h args=some (d,h')→Rel h c→VRs c args vals→Ij P f vals.toArray h c h' d
 keep:wR D
section
variable {P:Program} {D:bV}
def wS(P:Program)(D:bV)(n:Nat):Prop :=
 ∀code dc h c env a e aT h' Q,bX P code=some dc→cZ D n dc env h=.ok e aT h'→Rel h c→cI c env a→(∀a' w',St c h' aT a' w'→Q (Bp e) a' w')→code.wp P Q a c.w
def Ln(P:Program)(D:bV)(n:Nat):Prop :=
 ∀code dc h c env a e aT h' Q,bX P code=some dc→cZ D n (.loop dc) env h=.ok e aT h'→Rel h c→cI c env a→(∀a' w',St c h' aT a' w'→Q (Bp e) a' w')→Code.rounds P code Q n a c.w
theorem Lf{c:Ctx}{args:List DV}{vals:List Value}(hv:VRs c args vals)(n:Nat) :
  cI c (args++List.replicate (n-args.length) bN) {tmps:=vals.toArray++Array.replicate (n-vals.toArray.size) Go.undef,defers:=[]}:=by
 have hl:=hv.1
 refine⟨by simp[hl],rfl,fun i hi=>?_⟩
 simp only[List.length_append,List.length_replicate]at hi
 by_cases h1:i<args.length
 ·have h2:i<vals.length:=by omega
  rw[List.getElem_append_left h1]
  have:=hv.2 i h1 h2
  simpa[Array.getElem?_append,h2]using this
 ·rw[List.getElem_append_right (by omega)]
  simp only[List.getElem_replicate]
  have h2:¬i<vals.length:=by omega
  have h3:i-vals.length<n-vals.length:=by omega
  have:(vals.toArray++Array.replicate (n-vals.toArray.size) Go.undef).getD i Go.undef=Go.undef:=by
   simp[Array.getElem?_append,h2,h3]
  rw[this]
  exact .undef
theorem pU{n : Nat}(hC : wS P D n){fn : Func}{body : Code}{df : aV}(hb : fn.body = some body)(Z3 : bX P body = some df.body)(KE : fn.results.toList.mapM (Aj P) = some df.results)(hnt : df.ntmps = fn.ntmps)
    {f : Nat} (hf : P.funcs[f]? = some fn) {args : List DV} {vals : List Value} {h : aA} {c : Ctx} (hR : Rel h c) (hv : VRs c args vals) {d : DV} {h' : aA}
    (he : (match cZ D n df.body (args ++ List.replicate (df.ntmps - args.length) bN) h with
          | .ok (.exit _) _ _ => none
          | .ok _ env h' => match aL h' env df.results with
            | some v => some (v, h')
            | none => none
          | .fail => none) = some (d, h')) : Calls P f vals.toArray c.w (sQ h c h' d) := by
  have fin : ∀ e aT h1, e = Ex.normal ∨ e = Ex.ret → cZ D n df.body (args ++ List.replicate (df.ntmps - args.length) bN) h = .ok e aT h1 → aL h1 aT df.results = some d → h1 = h' → Calls P f vals.toArray c.w (sQ h c h' d) := by
    intro e aT h1 Z2 hJ hres e1
    subst e1
    refine calls_of_wp hf hb (hC body df.body h c _ _ e aT h1 _ Z3 hJ hR (by have := Lf hv df.ntmps; rw[hnt]at this ⊢; exact this) fun a' w' dD => ?_)
    obtain⟨ρ', k1, k2, k3⟩ := dD
    obtain⟨v, r1, r2⟩ := Jd (P := P) (fn := fn) KE k1 k3 hres
    have : a'.defers = [] ∧ ∃ v, (results fn a'.tmps).run P w' = .ok v w' ∧ sQ h c h1 d (.returned v) w' := ⟨k3.defers, v, r1, v, rfl, ρ', k1, k2, r2⟩
    rcases Z2 with rfl | rfl
    · exact this
    · exact this
  split at he
  · cases he
  · rename_i e aT h1 cY hJ
    split at he
    · rename_i v hres
      cases he
      refine fin e aT _ ?_ hJ hres rfl
      cases e with
      | normal => exact .inl rfl
      | exit id => exact absurd rfl (cY id)
      | ret => exact .inr rfl
    · cases he
  · cases he
theorem Tm(hk : wR D){n : Nat}{df : aV}{args : List DV}{h h' : aA}{d : DV}(hl : h.lim ≤ h.n)
    (he : (match cZ D n df.body (args ++ List.replicate (df.ntmps - args.length) bN) h with
          | .ok (.exit _) _ _ => none
          | .ok _ env h' => match aL h' env df.results with
            | some v => some (v, h')
            | none => none
          | .fail => none) = some (d, h')) : dZ h h' := by
  split at he
  · cases he
  · rename_i h2
    split at he
    · cases he; exact Hk hk n _ _ _ _ _ _ hl h2
    · cases he
  · cases he
theorem mC {f : FuncId} {fn : Func} {body : Code} (hf : P.funcs[f]? = some fn) (hb : fn.body = some body) (hn : fn.name ≠ "runtime.NumGoroutine") (vals : Array Value) (w : World) : (callFunc f vals).run P w = .ok (.enter f vals) w := by
 simp[callFunc,hf,hb,hn]
theorem vM(G:Kc P D){n:Nat}(hC:wS P D n):iY P (enter (cZ D n) D):=by
 intro f args h d h' c vals he hR hv
 unfold enter at he
 split at he
 ·rename_i hk qD;exact G.hooks f hk qD args h d h' c vals he hR hv
 ·split at he
  ·cases he
  ·rename_i df hdf
   obtain⟨fn,hf,GU⟩:=G.comp f df hdf
   unfold aK at GU
   split at GU
   ·rename_i body hb
    split at GU
    ·rename_i b rs Z3 KE
     split at GU
     ·rename_i Gr
      refine .inr ⟨f,vals.toArray,mC hf hb Gr _ _,?_⟩
      have hdfe:df={ntmps:=fn.ntmps,results:=rs,body:=b,mode:=df.mode}:=(Option.some.inj GU).symm
      have e1:df.body=b:=by rw[hdfe]
      have e2:df.results=rs:=by rw[hdfe]
      have e3:df.ntmps=fn.ntmps:=by rw[hdfe]
      simp only at he
      split at he
      ·exact pU hC hb (by rw[e1];exact Z3) (by rw[e2];exact KE) e3 hf hR hv he
      ·split at he
       ·rename_i v1 h1 Lb
        cases he
        have:=pU hC hb (by rw[e1];exact Z3) (by rw[e2];exact KE) e3 hf (hR.setLim (Nat.le_refl _)) hv Lb
        refine this.mono fun e w' hp=>?_
        obtain⟨v,e0,ρ',k1,k2,k3⟩:=hp
        have Gt:=Tm G.keep (Nat.le_refl _) Lb
        exact⟨v,e0,ρ',k1.setLim (Nat.le_trans hR.lim Gt.n),k2,k3⟩
       ·cases he
      ·split at he
       ·rename_i ds Cn
        split at he
        ·rename_i v1 h1 Lb
         split at he
         ·rename_i d1 Zc
          split at he
          ·rename_i GK
           cases he
           have:=pU hC hb (by rw[e1];exact Z3) (by rw[e2];exact KE) e3 hf hR.lend (Cj hR Cn hv) Lb
           refine this.mono fun e w' hp=>?_
           obtain⟨v,e0,ρ',k1,k2,k3⟩:=hp
           exact⟨v,e0,Rx hR k1 k2 k3 Zc GK⟩
          ·cases he
         ·cases he
        ·cases he
       ·cases he
      ·split at he
       ·rename_i id sz off len rest
        split at he
        ·rename_i ety dT xs hgid
         split at he
         ·rename_i bU
          obtain⟨hcond1,hcond2⟩:=bU
          subst hcond1
          split at he
          ·rename_i l hl
           split at he
           ·rename_i gO
            cases he
            have hv0:∃ v0 vr,vals=v0::vr:=by
             cases vals with
             | nil=>have:=hv.1;simp at this
             | cons v0 vr=>exact⟨v0,vr,rfl⟩
            obtain⟨v0,vr,rfl⟩:=hv0
            have hvh:VR c (.sl id sz off len) v0:=hv.2 0 (by simp) (by simp)
            obtain⟨e,cap,ρ1,hcase,k1,k2,k3⟩:=BK hR hgid hvh ((rest.map sX).foldl (·+·) 0)
            have hscn:jK h ety sz (match cZ D n df.body ((.sl h.n sz off len::rest)++List.replicate (df.ntmps-(DV.sl h.n sz off len::rest).length) bN) {(h.set id .dead).push (.arr ety sz (xs++List.replicate e .unk) cap)with lim:=h.n} with
              | .ok (.exit _) _ _=>none
              | .ok _ env h'=>match aL h' env df.results with
               | some v=>some (v,h')
               | none=>none
              | .fail=>none)=some l:=by
             rcases hcase with⟨rfl,rfl⟩|⟨aY,rfl⟩
             ·exact hl
             ·have:=List.all_eq_true.1 gO e (List.mem_range.2 aY)
              split at this
              ·rename_i l' Od
               rw[pC _ _ this];exact Od
              ·cases this
            have Lb:∃ r hj,(match cZ D n df.body ((.sl h.n sz off len::rest)++List.replicate (df.ntmps-(DV.sl h.n sz off len::rest).length) bN) {(h.set id .dead).push (.arr ety sz (xs++List.replicate e .unk) cap)with lim:=h.n} with
              | .ok (.exit _) _ _=>none
              | .ok _ env h'=>match aL h' env df.results with
               | some v=>some (v,h')
               | none=>none
              | .fail=>none)=some (r,hj):=by
             cases hx:(match cZ D n df.body ((.sl h.n sz off len::rest)++List.replicate (df.ntmps-(DV.sl h.n sz off len::rest).length) bN) {(h.set id .dead).push (.arr ety sz (xs++List.replicate e .unk) cap)with lim:=h.n} with
              | .ok (.exit _) _ _=>none
              | .ok _ env h'=>match aL h' env df.results with
               | some v=>some (v,h')
               | none=>none
              | .fail=>none)with
             | none=>rw[hx]at hscn;cases hscn
             | some p=>exact⟨p.1,p.2,rfl⟩
            obtain⟨r,hj,Lb⟩:=Lb
            rw[Lb]at hscn
            have aS:h.n≤((h.set id .dead).push (.arr ety sz (xs++List.replicate e .unk) cap)).n:=Nat.le_succ _
            have EL:VRs (c.next c.w ρ1 ((h.set id .dead).push (.arr ety sz (xs++List.replicate e .unk) cap))) (.sl h.n sz off len::rest) (v0::vr):=by
             refine⟨hv.1,fun i h1 h2=>?_⟩
             cases i with
             | zero=>exact k3
             | succ i=>exact(hv.2 (i+1) h1 h2).mono k2
            have iU:=pU hC hb (by rw[e1];exact Z3) (by rw[e2];exact KE) e3 hf (k1.setLim aS) EL Lb
            have hkp:=Tm G.keep aS Lb
            refine iU.mono fun e w' hp=>?_
            obtain⟨v,e0,ρj,q1,q2,q3⟩:=hp
            refine⟨v,e0,N3 hR hgid q1 (k2.trans q2) (fun i hi=>?_) hscn q3⟩
            have:=hkp.get i hi
            rw[this]
            exact bP hi
           ·cases he
          ·cases he
         ·cases he
        ·exact pU hC hb (by rw[e1];exact Z3) (by rw[e2];exact KE) e3 hf hR hv he
       ·exact pU hC hb (by rw[e1];exact Z3) (by rw[e2];exact KE) e3 hf hR hv he
      ·split at he
       ·rename_i as h1 ea
        obtain⟨kF,kV⟩:=Gd (fun a b c=>Js a b c) hR hv ea
        split at he
        ·rename_i ds Cn
         split at he
         ·rename_i v1 h2 Lb
          split at he
          ·rename_i d1 Zc
           split at he
           ·rename_i GK
            cases he
            have:=pU hC hb (by rw[e1];exact Z3) (by rw[e2];exact KE) e3 hf kF.1.lend (Cj kF.1 Cn kV) Lb
            refine this.mono fun e w' hp=>?_
            obtain⟨v,e0,ρ',k1,k2,k3⟩:=hp
            obtain⟨ρ2,p1,p2,p3⟩:=Rx kF.1 k1 k2 k3 Zc GK
            exact⟨v,e0,ρ2,p1,kF.2.trans p2,p3⟩
           ·cases he
          ·cases he
         ·cases he
        ·cases he
       ·cases he
     ·cases GU
    ·cases GU
   ·cases GU
theorem pL(a b:aN):∃ x y,Gb a b=.seq x y:=by
 unfold Gb
 cases hw:uL a b with
 | none=>exact⟨a,b,rfl⟩
 | some r =>
  unfold uL at hw
  split at hw
  ·split at hw
   ·split at hw
    ·cases hw;exact⟨_,_,rfl⟩
    ·cases hw
   ·cases hw
  ·cases hw
theorem xK{a b r:aN}(hw:uL a b=some r):∃ ds dl x it nx ok en X Y kl ops bb d1 d2 d3,a=.region ds∧ds.getLast?=some dl∧(dl.dst=some it∧dl.op=.range x∧dl.guard=none) ∧
  b=.block X (.loop (.seq (.region [d1,d2]) (.seq (.cond (.t ok) .skip (.exit X)) (.block Y (.seq (.region (d3::ops)) bb)))))∧(d1.dst=some nx∧d1.op=.next (.t it)∧d1.guard=none)∧(d2.dst=some ok∧d2.op=.extract (.t nx) 0∧d2.guard=none) ∧
  (d3.dst=some en∧d3.op=.entry (.t it)∧d3.guard=none)∧Np bb=true∧(it≠nx∧it≠ok)∧r=.seq (.region ds.dropLast) (.walk x it nx ok en X Y kl ops bb):=by
 unfold uL at hw
 split at hw
 ·split at hw
  ·rename_i hl
   split at hw
   ·rename_i hc
    obtain⟨⟨rfl,rfl,rfl,rfl,rfl⟩,hb,cY⟩:=hc
    cases hw
    exact⟨_,_,_,_,_,_,_,_,_,_,_,_,_,_,_,rfl,hl,⟨rfl,rfl,rfl⟩,rfl,⟨rfl,rfl,rfl⟩,⟨rfl,rfl,rfl⟩,⟨rfl,rfl,rfl⟩,hb,cY,rfl⟩
   ·cases hw
  ·cases hw
 ·cases hw
theorem oH{code:Code}{ds:List aJ}(hc:bX P code=some (.region ds)):∃ id ops,code=.region id ops false∧ops.toList.mapM (dI P ops.toList .write 0)=some ds:=by
 cases code<;>unfold bX at hc
 case region id ops draw =>
  cases draw with
  | false =>
   simp only[fI,Bool.false_eq_true,if_false]at hc
   split at hc
   ·rename_i h;cases hc;exact⟨id,ops,rfl,h⟩
   ·cases hc
  | true =>
   obtain⟨cA,bs,e,_⟩:=eX hc
   cases e
 case seq a b =>
  split at hc
  ·obtain⟨x,y,e⟩:=pL _ _
   rw[e]at hc;cases hc
  ·cases hc
 all_goals ((repeat' split at hc)<;>first|(cases hc;done)|(simp at hc;done))
theorem tZ{code:Code}{a b:aN}(hc:bX P code=some (.seq a b))(hb:Np b=true):∃ x y,code=.seq x y∧bX P x=some a∧bX P y=some b:=by
 cases code<;>unfold bX at hc
 case seq x y =>
  split at hc
  ·rename_i da db h1 h2
   cases hw:uL da db with
   | none =>
    unfold Gb at hc
    rw[hw]at hc
    cases hc
    exact⟨x,y,rfl,h1,h2⟩
   | some r =>
    obtain⟨ds,dl,x0,it,nx,ok,en,X,Y,kl,ops,bb,d1,d2,d3,_,_,_,_,_,_,_,_,_,rfl⟩:=xK hw
    unfold Gb at hc
    rw[hw]at hc
    cases hc
    cases hb
  ·cases hc
 case region id ops draw =>
  cases draw with
  | false =>
   simp only[fI,Bool.false_eq_true,if_false]at hc
   split at hc<;>cases hc
  | true =>
   obtain⟨cA,bs,e,_⟩:=eX hc
   cases e
 all_goals ((repeat' split at hc)<;>first|(cases hc;done)|(simp at hc;done))
theorem vP{code:Code}{X:Nat}{b:aN}(hc:bX P code=some (.block X b)):∃ y,code=.block X y∧bX P y=some b:=by
 cases code<;>unfold bX at hc
 case block id y =>
  split at hc
  ·rename_i h;cases hc;exact⟨y,rfl,h⟩
  ·cases hc
 case region id ops draw =>
  cases draw with
  | false =>
   simp only[fI,Bool.false_eq_true,if_false]at hc
   split at hc<;>cases hc
  | true =>
   obtain⟨cA,bs,e,_⟩:=eX hc
   cases e
 case seq a b =>
  split at hc
  ·obtain⟨x,y,e⟩:=pL _ _
   rw[e]at hc;cases hc
  ·cases hc
 all_goals ((repeat' split at hc)<;>first|(cases hc;done)|(simp at hc;done))
theorem Jx{code:Code}{b:aN}(hc:bX P code=some (.loop b)):∃ y,code=.loop y∧bX P y=some b:=by
 cases code<;>unfold bX at hc
 case loop y =>
  split at hc
  ·rename_i h;cases hc;exact⟨y,rfl,h⟩
  ·cases hc
 case region id ops draw =>
  cases draw with
  | false =>
   simp only[fI,Bool.false_eq_true,if_false]at hc
   split at hc<;>cases hc
  | true =>
   obtain⟨cA,bs,e,_⟩:=eX hc
   cases e
 case seq a b =>
  split at hc
  ·obtain⟨x,y,e⟩:=pL _ _
   rw[e]at hc;cases hc
  ·cases hc
 all_goals ((repeat' split at hc)<;>first|(cases hc;done)|(simp at hc;done))
theorem Jz{code:Code}{c:Opd}{a b:aN}(hc:bX P code=some (.cond c a b)):∃ o x y,code=.cond o x y∧opd o=some c∧bX P x=some a∧bX P y=some b:=by
 cases code<;>unfold bX at hc
 case cond o x y =>
  split at hc
  ·rename_i h1 h2 h3;cases hc;exact⟨o,x,y,rfl,h1,h2,h3⟩
  ·cases hc
 case region id ops draw =>
  cases draw with
  | false =>
   simp only[fI,Bool.false_eq_true,if_false]at hc
   split at hc<;>cases hc
  | true =>
   obtain⟨cA,bs,e,_⟩:=eX hc
   cases e
 case seq a b =>
  split at hc
  ·obtain⟨x,y,e⟩:=pL _ _
   rw[e]at hc;cases hc
  ·cases hc
 all_goals ((repeat' split at hc)<;>first|(cases hc;done)|(simp at hc;done))
theorem Jw{code:Code}(hc:bX P code=some .skip):code=.skip:=by
 cases code<;>unfold bX at hc
 case skip=>rfl
 case region id ops draw =>
  cases draw with
  | false =>
   simp only[fI,Bool.false_eq_true,if_false]at hc
   split at hc<;>cases hc
  | true =>
   obtain⟨cA,bs,e,_⟩:=eX hc
   cases e
 case seq a b =>
  split at hc
  ·obtain⟨x,y,e⟩:=pL _ _
   rw[e]at hc;cases hc
  ·cases hc
 all_goals ((repeat' split at hc)<;>first|(cases hc;done)|(simp at hc;done))
theorem Jy{code:Code}{X:Nat}(hc:bX P code=some (.exit X)):code=.exit X:=by
 cases code<;>unfold bX at hc
 case exit id=>cases hc;rfl
 case region id ops draw =>
  cases draw with
  | false =>
   simp only[fI,Bool.false_eq_true,if_false]at hc
   split at hc<;>cases hc
  | true =>
   obtain⟨cA,bs,e,_⟩:=eX hc
   cases e
 case seq a b =>
  split at hc
  ·obtain⟨x,y,e⟩:=pL _ _
   rw[e]at hc;cases hc
  ·cases hc
 all_goals ((repeat' split at hc)<;>first|(cases hc;done)|(simp at hc;done))
theorem Kv{α β:Type}{f:α→Option β}:∀{l:List α} {r:List β} {d:β},l.mapM f=some (r++[d])→∃ l' o,l=l'++[o]∧l'.mapM f=some r∧f o=some d:=by
 intro l
 induction l with
 | nil=>intro r d h;simp at h
 | cons x l ih =>
  intro r d h
  simp only[List.mapM_cons,Option.pure_def,Option.bind_eq_bind,Option.bind_eq_some_iff]at h
  obtain⟨y,hy,ys,yN,h⟩:=h
  cases r with
  | nil =>
   simp only[List.nil_append,Option.some.injEq,List.cons.injEq]at h
   obtain⟨rfl,rfl⟩:=h
   have hl:=cJ _ _ _ yN
   have:l=[]:=List.length_eq_zero_iff.1 (by simpa using hl.symm)
   subst this
   exact⟨[],x,rfl,rfl,hy⟩
  | cons z r =>
   simp only[List.cons_append,Option.some.injEq,List.cons.injEq]at h
   obtain⟨rfl,rfl⟩:=h
   obtain⟨l',o,rfl,h1,h2⟩:=ih yN
   exact⟨x::l',o,rfl,by simp[hy,h1],h2⟩
theorem Vv{call:iD}{run:aN→Env→aA→Res}(iU:iY P call)
  (hcode:∀code dc h c env a e aT h' (Q:Exit→Act→World→Prop),bX P code=some dc→run dc env h=.ok e aT h'→Rel h c→cI c env a→(∀a' w',St c h' aT a' w'→Q (Bp e) a' w')→code.wp P Q a c.w)
  {x y:Code} {dx dy r1:aN} {rr:aN} (hx:bX P x=some dx) (hy:bX P y=some dy) (hw:uL dx dy=some rr) {h:aA} {c:Ctx} {env:Env} {a:Act} {e:Ex} {aT:Env} {h':aA} {Q:Exit→Act→World→Prop} {env1:Env} {h1:aA}
  {ds:List aJ} {xo:Opd} {it nx ok en X Y:Nat} {kl:List Nat} {ops:List aJ} {bb:aN} (hrr:rr=.seq (.region ds) (.walk xo it nx ok en X Y kl ops bb)) (he1:eO call ds env h=some (env1,h1))
  (he2:rT call run it nx ok en X Y kl ops bb env1 h1 (lZ h1 (xo.eval env1))=.ok e aT h') (hR:Rel h c) (hE:cI c env a) (hQ:∀a' w',St c h' aT a' w'→Q (Bp e) a' w'):(Code.seq x y).wp P Q a c.w:=by
 obtain⟨ds0,dl,x0,it0,nx0,ok0,en0,X0,Y0,kl0,ops0,bb0,d1,d2,d3,rfl,hlast,KR,rfl,Zc,KT,PA,hnw,cY,e0⟩:=xK hw
 rw[hrr]at e0
 simp only[aN.seq.injEq,aN.region.injEq,aN.walk.injEq]at e0
 obtain⟨rfl,rfl,rfl,rfl,rfl,rfl,rfl,rfl,rfl,rfl,rfl⟩:=e0
 obtain⟨idA,opsA,rfl,hmA⟩:=oH hx
 obtain⟨y1,rfl,hy1⟩:=vP hy
 obtain⟨y2,rfl,hy2⟩:=Jx hy1
 obtain⟨y3,y4,rfl,hy3,hy4⟩:=tZ hy2 rfl
 obtain⟨i2,ops2,rfl,GN⟩:=oH hy3
 obtain⟨y5,y6,rfl,hy5,hy6⟩:=tZ hy4 rfl
 obtain⟨okO,y7,y8,rfl,kok,hy7,hy8⟩:=Jz hy5
 rw[Jw hy7,Jy hy8]
 obtain⟨y9,rfl,hy9⟩:=vP hy6
 obtain⟨y10,v,rfl,hy10,hv⟩:=tZ hy9 hnw
 obtain⟨i3,ops3,rfl,hm3⟩:=oH hy10
 have hds0:ds0=ds0.dropLast++[dl]:=by
  have hne0:ds0≠[]:=by intro h0;subst h0;simp at hlast
  rw[List.getLast?_eq_some_getLast hne0]at hlast
  cases hlast
  exact(List.dropLast_concat_getLast hne0).symm
 rw[hds0]at hmA
 obtain⟨lA,oR,eA,mA,cR⟩:=Kv hmA
 obtain⟨o1,r2,e2,k1,KF⟩:∃ o1 r2,ops2.toList=o1::r2∧dI P ops2.toList .write 0 o1=some d1∧r2.mapM (dI P ops2.toList .write 0)=some [d2]:=by
  generalize ops2.toList=l at GN
  have:∀l0:List Oper,l.mapM (dI P l0 .write 0)=some [d1,d2]→∃ o1 r2,l=o1::r2∧dI P l0 .write 0 o1=some d1∧r2.mapM (dI P l0 .write 0)=some [d2]:=by
   intro l0 hm
   cases l with
   | nil=>simp at hm
   | cons o r =>
    simp only[List.mapM_cons,Option.pure_def,Option.bind_eq_bind,Option.bind_eq_some_iff]at hm
    obtain⟨y,hy,ys,yN,h⟩:=hm
    cases h
    exact⟨o,r,rfl,hy,yN⟩
  exact this l GN
 obtain⟨o2,rfl,k2⟩:∃ o2,r2=[o2]∧dI P ops2.toList .write 0 o2=some d2:=by
  obtain⟨l',o,e,h1,h2⟩:=Kv (r:=[]) KF
  have hl:=cJ _ _ _ h1
  have:l'=[]:=List.length_eq_zero_iff.1 (by simpa using hl.symm)
  subst this
  exact⟨o,e,h2⟩
 obtain⟨o3,l3,e3,k3,k4⟩:∃ o3 l3,ops3.toList=o3::l3∧dI P ops3.toList .write 0 o3=some d3∧l3.mapM (dI P ops3.toList .write 0)=some ops:=by
  generalize ops3.toList=l at hm3
  have:∀l0:List Oper,l.mapM (dI P l0 .write 0)=some (d3::ops)→∃ o3 l3,l=o3::l3∧dI P l0 .write 0 o3=some d3∧l3.mapM (dI P l0 .write 0)=some ops:=by
   intro l0 hm
   cases l with
   | nil=>simp at hm
   | cons o r =>
    simp only[List.mapM_cons,Option.pure_def,Option.bind_eq_bind,Option.bind_eq_some_iff]at hm
    obtain⟨y,hy,ys,yN,h⟩:=hm
    cases h
    exact⟨o,r,rfl,hy,yN⟩
  exact this l hm3
 obtain⟨g1,g2,g3,_,_⟩:=iM cR
 rw[KR.2.1]at g1
 rw[KR.2.2]at g2
 rw[KR.1]at g3
 obtain⟨tR,xR,kT,eT,hoR,huR,hxR⟩:=Pc g1
 refine wp_seq (nB ?_)
 rw[eA]at mA g2 ⊢
 refine xE iU lA ds0.dropLast h c env a env1 h1 mA he1 hR hE fun a1 w1 dD=>?_
 obtain⟨ρ1,hR1,hle1,hE1⟩:=dD
 generalize uJ:c.next w1 ρ1 h1=cc at hR1 hle1 hE1
 have GJ:w1=cc.w:=by rw[←uJ];rfl
 rw[GJ]
 obtain⟨m,es,hxm,hg,hwi,gO⟩:=Kf he2
 have dN:=bI hxR hE1
 rw[hxm]at dN
 obtain⟨mb,dN,hρ⟩:=dN.map_inv
 obtain⟨es',ents,clk,kP,zZ,jG,oT⟩:=hR1.mapo hg hρ
 have Lb:(getObj mb).run P cc.w=.ok (.map ents clk) cc.w:=by simp[getObj,Sem.run,zZ]
 refine wpList_step fun K hK=>?_
 rw[if_pos (gK g2 hE1 rfl)]
 have hexR:(execOp a1.eval oR).run P cc.w=.ok (.value (.pointer (some ⟨cc.w.heap.size,0,none⟩))) {cc.w with heap:=cc.w.heap.push (.mapIter (some mb) clk #[] clk)}:=by
  simp[execOp,hoR,Instr.range,run_underlying huR,dN,Lb]
 unfold Oper.wp
 rw[hexR]
 refine hK _ _ (wpList_nil ?_)
 have hS:=hR1.shut hg hρ
 have hmlt:=dH hg
 generalize Jq:({cc with E:=fun b=>cc.E b∨b=mb}:Ctx)=c1 at hS
 have hc1w:c1.w=cc.w:=by rw[←Jq]
 have hbi:∀b,c1.E b→b≠cc.w.heap.size:=fun b hb=>by have:=(hS.pend b hb).1;rw[hc1w]at this;omega
 obtain⟨hA,hleA⟩:=hS.early (w':={cc.w with heap:=cc.w.heap.push (.mapIter (some mb) clk #[] clk)}) (by simp[hc1w]) (fun k hk=>by
  rw[hc1w]at hk ⊢
  simp only[Array.getElem?_push]
  rw[if_neg (by omega)]) (by rw[hc1w];exact .push rfl trivial rfl rfl)
 obtain⟨hB,hleB⟩:=hA.nameE cc.w.heap.size
 have oC:=hleA.trans hleB
 have OW:(h1.set m .dead).n=h1.n:=rfl
 generalize hC3:(⟨{cc.w with heap:=cc.w.heap.push (.mapIter (some mb) clk #[] clk)},fun i=>if i=(h1.set m .dead).n then some (cc.w.heap.size,0)else c1.ρ i,fun b=>c1.O b∨b=c1.w.heap.size,c1.X,fun b=>c1.E b∨b=c1.w.heap.size,c1.τ⟩:Ctx)=C3 at hB oC
 have hC3w:C3.w={cc.w with heap:=cc.w.heap.push (.mapIter (some mb) clk #[] clk)}:=by rw[←hC3]
 have hC3E:C3.E=fun b=>c1.E b∨b=cc.w.heap.size:=by rw[←hC3,←hc1w]
 have hC3nm:C3.ρ h1.n=some (cc.w.heap.size,0):=by rw[←hC3];exact if_pos rfl
 have I:oV c1 mb cc.w.heap.size clk h1.n (iR h1 m) C3 #[]:=by
  refine⟨hB,⟨oC.rho,oC.size,oC.frame,oC.own,oC.shape,oC.X,fun b hb he=>⟨he,(oC.pend b hb (by rw[hC3E];exact .inl he)).2⟩,oC.quiet,oC.tok⟩,hC3E,by rw[←hC3],?_,hC3nm⟩
  rw[hC3w];simp
 have hE3:cI C3 (env1.set it (.ptr h1.n 0 0 0)) (a1.put oR.dst (.pointer (some ⟨cc.w.heap.size,0,none⟩))):=by
  have h0:cI C3 env1 a1:=⟨hE1.size,hE1.defers,fun i hi=>by
   have:=(hE1.val i hi).setE (fun b=>cc.E b∨b=mb)
   rw[Jq]at this
   exact this.mono oC⟩
  have hp:VR C3 (.ptr h1.n 0 0 0) (.pointer (some ⟨cc.w.heap.size,0,none⟩)):=by
   have:=VR.ptr (sz:=0) (idx:=0) (off:=0) hC3nm
   simpa using this
  rw[←g3]
  exact h0.put hp (some it)
 rw[show({cc.w with heap:=cc.w.heap.push (.mapIter (some mb) clk #[] clk)}:World)=C3.w from hC3w.symm]
 show(Code.block X _).wp P Q _ C3.w
 refine wp_block (wp_loop_rounds (ents.size+1) ?_)
 have cB:es'.length=ents.size:=by simpa using jG.1
 have hmap:((List.range ents.size).map fun j=>es'.getD j (.unk,.unk))=es':=by
  apply List.ext_getElem
  ·simp[cB]
  ·intro i h1 h2;simp at h1;simp[h2]
 have hc1E:c1.E mb:=by rw[←Jq];exact .inr rfl
 have hwi0:=hwi
 unfold iF at hwi
 refine Mx (Fin:=fun e1 envx hx1=>e1=e∧∃ e2 env2 h2,rK kl m es env1 h1 (.ok e1 envx hx1)=.ok e2 env2 h2∧aT=env2∧qE Ty h'.objs h2.objs=true) iU (fun h c env a e aT h' Q hr hR hE hQ=>hcode v bb h c env a e aT h' Q hv hr hR hE hQ) e2 e3 k1 Zc k2 KT k3 PA k4 kok cY hbi hc1E (ents:=ents) (by rw[hc1w];exact zZ) oT (es':=es') ?_ ?_ ents.size (List.range ents.size) (by simp) List.nodup_range (fun j hj=>List.mem_range.1 hj) (iR h1 m) C3 _ _ #[] I hE3 (fun j hj=>by simp[hj]) ?_
 ·refine⟨jG.1,fun i e1 m1 h3 h4=>?_⟩
  have:=jG.2 i e1 m1 h3 h4
  have q1:=this.1.setE (fun b=>cc.E b∨b=mb)
  have q2:=this.2.setE (fun b=>cc.E b∨b=mb)
  rw[Jq]at q1 q2
  exact⟨q1,q2⟩
 ·rintro e1 envx hx1 C ax seen ⟨rfl,e2',env2,h2,Ti,G2,hz⟩ IC hEC
  obtain⟨_,_,hh',_⟩:∃ e3 env3 h3,rK kl m es env1 h1 (.ok e3 env3 h3)=.ok e1 aT h':=by
   cases Vl:rounds call run it nx ok en X Y h1.n ops bb es (env1.set it (.ptr h1.n 0 0 0)) (iR h1 m)with
   | fail=>rw[Vl]at hwi;cases hwi
   | ok e3 env3 h3=>rw[Vl]at hwi;exact⟨e3,env3,h3,hwi⟩
  rename_i hcl'
  obtain⟨_,_,rfl,_,_,_⟩:=yH hcl'
  have dD:=Ur hR1 hg hρ kP zZ oT jG hE1 (by rw[Jq];exact IC) hEC Ti G2 (by rfl) (by rfl) hz
  rw[←uJ]at dD
  exact hQ _ _ (dD.trans (by rw[uJ];exact hle1))
 ·intro l hl
  rw[hmap]at hl
  have hp:=gO l (Q5 (hl.trans kP.symm))
  unfold iF at hp
  cases Vl:rounds call run it nx ok en X Y h1.n ops bb l (env1.set it (.ptr h1.n 0 0 0)) (iR h1 m)with
  | fail=>rw[Vl]at hp;simp[rK,Ou]at hp
  | ok e3 env3 h3 =>
   rw[Vl]at hp
   cases Ti:rK kl m es env1 h1 (.ok e3 env3 h3)with
   | fail=>rw[Ti]at hp;simp[Ou]at hp
   | ok e4 env4 h4 =>
    rw[Ti]at hp
    simp only[Ou,Bool.and_eq_true,decide_eq_true_eq]at hp
    obtain⟨q1,_⟩:=yH Ti
    exact⟨e3,env3,h3,rfl,by rw[hp.1,q1],e4,env4,h4,Ti,pC _ _ hp.2.1,hp.2.2⟩
theorem Ka(G:Kc P D):∀n m,m≤n→wS P D m∧Ln P D m:=by
 intro n
 induction n with
 | zero =>
  intro m hm
  rw[Nat.le_zero.1 hm]
  refine⟨fun code dc h c env a e aT h' Q _ he=>?_,fun code dc h c env a e aT h' Q _ he=>?_⟩
  ·cases he
  ·cases he
 | succ n ih =>
  intro m hm
  rcases Nat.lt_or_ge m (n+1)with aY|OY
  ·exact ih m (by omega)
  rw[Nat.le_antisymm hm OY]
  obtain⟨iC,iL⟩:=ih n (Nat.le_refl _)
  have iU:=vM G iC
  have Gt:=qW (run:=cZ D n) G.keep (Hk G.keep n)
  refine⟨?_,?_⟩
  ·intro code dc h c env a e aT h' Q uJ he hR hE hQ
   unfold bX at uJ
   split at uJ
   ·cases uJ
    simp only[cZ]at he
    cases he
    exact wp_skip (hQ _ _ ⟨c.ρ,by rw[hR.same];exact⟨hR,.refl c,hE⟩⟩)
   ·rename_i x y
    split at uJ
    ·rename_i _ _ dx dy hx hy
     cases uJ
     cases hw:uL dx dy with
     | some r =>
      obtain⟨ds,dl,x0,it,nx,ok,en,X,Y,kl,ops,bb,d1,d2,d3,_,_,_,_,_,_,_,_,_,hr⟩:=xK hw
      unfold Gb at he
      rw[hw,hr]at he
      simp only[Option.getD_some,cZ]at he
      cases n with
      | zero=>simp only[cZ]at he;cases he
      | succ k =>
       simp only[cZ]at he
       split at he
       ·rename_i env1 h1 h2
        split at h2
        ·rename_i h3
         cases h2
         obtain⟨jC,jL⟩:=ih k (Nat.le_succ _)
         exact Vv (r1:=dx) (vM G jC) jC hx hy hw hr h3 he hR hE hQ
        ·cases h2
       ·rename_i cY
        split at he
        ·rename_i h3;exact absurd (by rw[h3]) (cY _ _)
        ·cases he
     | none =>
     unfold Gb at he
     rw[hw]at he
     simp only[Option.getD_none,cZ]at he
     refine wp_seq ?_
     split at he
     ·rename_i env1 h1 h2
      refine iC x dx h c env a .normal env1 h1 _ hx h2 hR hE fun a' w' dD=>?_
      obtain⟨ρ',k1,k2,k3⟩:=dD
      show y.wp P Q a' w'
      exact iC y dy h1 (c.next w' ρ' h1) env1 a' e aT h' Q hy he k1 k3 fun a2 w2 Gn=>hQ _ _ (Gn.trans k2)
     ·rename_i cY
      refine iC x dx h c env a e aT h' _ hx he hR hE fun a' w' dD=>?_
      have:=hQ a' w' dD
      cases e with
      | normal=>exact absurd he (cY aT h')
      | exit id=>exact this
      | ret=>exact this
    ·cases uJ
   ·rename_i cd x y
    split at uJ
    ·rename_i _ _ _ cd' dx dy h1 h2 h3
     cases uJ
     simp only[cZ]at he
     have hv:=bI h1 hE
     split at he
     ·rename_i T7
      rw[T7]at hv
      exact wp_cond_true hv.bool_inv (iC x dx h c env a e aT h' Q h2 he hR hE hQ)
     ·rename_i T7
      rw[T7]at hv
      exact wp_cond_false hv.bool_inv (iC y dy h c env a e aT h' Q h3 he hR hE hQ)
     ·cases he
    ·cases uJ
   ·rename_i id b
    split at uJ
    ·rename_i _ db hb
     cases uJ
     simp only[cZ]at he
     refine wp_block ?_
     split at he
     ·rename_i id' env1 h1 h2
      split at he
      ·rename_i eK
       cases he
       exact iC b db h c env a (.exit id') _ _ _ hb h2 hR hE fun a' w' dD=>by
        show Exit.inBlock id Q (.exit id') a' w'
        simp only[Exit.inBlock,eK,if_true]
        exact hQ a' w' dD
      ·rename_i eK
       cases he
       exact iC b db h c env a (.exit id') _ _ _ hb h2 hR hE fun a' w' dD=>by
        show Exit.inBlock id Q (.exit id') a' w'
        simp only[Exit.inBlock,eK,if_false]
        exact hQ a' w' dD
     ·rename_i cY
      refine iC b db h c env a e aT h' _ hb he hR hE fun a' w' dD=>?_
      have:=hQ a' w' dD
      cases e with
      | normal=>exact this
      | exit id'=>exact absurd he (cY id' aT h')
      | ret=>exact this
    ·cases uJ
   ·rename_i b
    split at uJ
    ·rename_i _ db hb
     cases uJ
     refine wp_loop_rounds (n+1) ?_
     rw[rounds_succ]
     simp only[cZ]at he
     split at he
     ·rename_i env1 h1 h2
      refine iC b db h c env a .normal env1 h1 _ hb h2 hR hE fun a' w' dD=>?_
      obtain⟨ρ',k1,k2,k3⟩:=dD
      show Code.rounds P b Q n a' w'
      exact iL b db h1 (c.next w' ρ' h1) env1 a' e aT h' Q hb he k1 k3 fun a2 w2 Gn=>hQ _ _ (Gn.trans k2)
     ·rename_i cY
      refine iC b db h c env a e aT h' _ hb he hR hE fun a' w' dD=>?_
      have:=hQ a' w' dD
      cases e with
      | normal=>exact absurd he (cY aT h')
      | exit id=>exact this
      | ret=>exact this
    ·cases uJ
   ·cases uJ
    simp only[cZ]at he
    cases he
    exact wp_exit (hQ _ _ ⟨c.ρ,by rw[hR.same];exact⟨hR,.refl c,hE⟩⟩)
   ·cases uJ
    simp only[cZ]at he
    cases he
    exact wp_ret (hQ _ _ ⟨c.ρ,by rw[hR.same];exact⟨hR,.refl c,hE⟩⟩)
   ·rename_i id ops draw
    cases draw with
    | false =>
     simp only[fI,Bool.false_eq_true,if_false]at uJ
     split at uJ
     ·rename_i ds Cn
      cases uJ
      simp only[cZ]at he
      split at he
      ·rename_i env1 h1 hJ
       cases he
       exact wp_region_list (by
        have:=wI iU (ops:=ops.toList) (Q:=Q) ops.toList ds h c env a _ _ Cn hJ hR hE hQ
        simpa using this)
      ·cases he
     ·cases uJ
    | true =>
     have hdc:∃ ds,dc=.draw ds:=by
      obtain⟨cA,bs,e,_⟩:=eX uJ
      exact⟨_,e⟩
     obtain⟨ds,rfl⟩:=hdc
     simp only[cZ]at he
     split at he
     ·rename_i env1 h1 hJ
      cases he
      exact Zz G.mixed uJ Gt iU hJ hR hE hQ
     ·cases he
   ·cases uJ
  ·intro code dc h c env a e aT h' Q uJ he hR hE hQ
   rw[rounds_succ]
   simp only[cZ]at he
   split at he
   ·rename_i env1 h1 h2
    refine iC code dc h c env a .normal env1 h1 _ uJ h2 hR hE fun a' w' dD=>?_
    obtain⟨ρ',k1,k2,k3⟩:=dD
    show Code.rounds P code Q n a' w'
    exact iL code dc h1 (c.next w' ρ' h1) env1 a' e aT h' Q uJ he k1 k3 fun a2 w2 Gn=>hQ _ _ (Gn.trans k2)
   ·rename_i cY
    refine iC code dc h c env a e aT h' _ uJ he hR hE fun a' w' dD=>?_
    have:=hQ a' w' dD
    cases e with
    | normal=>exact absurd he (cY aT h')
    | exit id=>exact this
    | ret=>exact this
theorem Ht(G:Kc P D)(n:Nat):wS P D n∧Ln P D n:=Ka G n n (Nat.le_refl _)
theorem Hv(G:Kc P D)(n:Nat):iY P (Uv D n):=vM G (Ht G n).1
end
end Go.Dm
/-
Part 28 of "Dm": a call of a function sW arguments from outside; the table of the functions.
-/
namespace Go.Dm
open Go.RowKit
def lD:aA:={objs:=[],n:=0,lim:=0}
def Ul(w:World)(τ:Nat→Value:=fun _=>undef):Ctx:=⟨w,fun _=>none,fun _=>False,fun _=>False,fun _=>False,τ⟩
theorem Bl(id:Nat):lD.get id=none:=by simp[aA.get,lD]
def Vj(w:World):Prop:=∀b v,Ol=some (b,v)→b<w.heap.size∧w.cell? ⟨b,0,none⟩=some v
theorem QZ(w:World)(hg:Vj w)(τ:Nat→Value:=fun _=>undef):Rel lD (Ul w τ) :=
 ⟨rfl,Nat.le_refl _,fun id h=>absurd rfl h,fun id o h=>(by rw[Bl]at h;cases h),fun i j oi oj b x y hi=>(by rw[Bl]at hi;cases hi),fun b=>⟨fun h=>h.elim,fun h=>by
  rcases h with⟨id,o,x,hg,_⟩|h
  ·rw[Bl]at hg;cases hg
  ·exact h.elim⟩,fun b h=>h.elim,fun b h=>h.elim,fun b h=>h.elim,fun b v hv=>⟨(hg b v hv).1,fun h=>h,(hg b v hv).2⟩⟩
def GG(W w':World):Prop:=W.keptBut w' (fun _=>False)∧(∀a,a.block<W.heap.size→w'.frozen? a=W.frozen? a)∧W.heap.size≤w'.heap.size
theorem GG.frame{W w':World}(h:GG W w')(may:MemPlace→Prop):W.keptBut w' may:=World.keptBut_mono (fun _ f=>f.elim) h.1
theorem Tl{w:World}{τ:Nat→Value}{c:Ctx}(h:bR (Ul w τ) c):GG w c.w:=by
 refine⟨⟨h.quiet.os,h.quiet.out,fun i hi=>?_⟩,h.quiet.froz,h.size⟩
 have:=(World.keptBut_refl w (fun _=>False)).2.2 i hi
 rw[h.frame i hi (fun h=>h)]
 exact this
open Go.ChangeShapes Go.WideShapes in
theorem Q3{H:Type}{enc:TypeId×Value→H}{P:Program}{f:Func}{s:ChangeSpec}{oU fresh handsOn again:Bool}{W W':World}{args:Array Value}{v:Value}{ds gs:List (DataW H)}{before pa pv:List MemPlace}
  (hW:DataW.Whole enc P f.params.toList s.vars oU W args.toList ds gs before)
  (hres:∀(b:Nat) (sp:Nat→Bool) (hd:Bool),DataW.TrodAll enc P W' b sp hd f.resultTypes.toList (v.resultList f.resultTypes.size) (s.fn H (ds++gs)).results [])
  (hargs:∀sp:Nat→Bool,(∀p∈before,sp p.block=true)→DataW.TrodAll enc P W' 0 sp true f.params.toList args.toList (s.fn H (ds++gs)).args pa)
  (hvars:∀sp:Nat→Bool,(∀p∈before,sp p.block=true)→DataW.TrodVars enc P W' sp s.vars (s.fn H (ds++gs)).vars pv)
  (T2:before=pa++pv) (hk:W.keptBut W' (·∈before)) (hfz:∀a,a.block<W.heap.size→W'.frozen? a=W.frozen? a)
  (MI:∀(j:Nat) (t:TypeId) (r:Value),f.resultTypes[j]?=some t→(v.resultList f.resultTypes.size)[j]?=some r→Value.okWide P W' .any 0 t r) :
  s.post enc P f oU fresh handsOn again W args v W':=by
 have hold:∀p∈before,(fun b=>decide (b<W.heap.size)) p.block=true:=fun p hp=>by simpa using hW.lt p hp
 have aY:=hW.lt
 refine⟨ds,gs,before,[],pa,pv,hW,hres _ _ _,hargs _ hold,hvars _ hold,World.keptBut_mono (fun p hp=>⟨hp,?_⟩) hk,fun _=>?_⟩
 ·rw[T2,List.mem_append]at hp
  exact Or.inr hp
 ·obtain⟨_,_,_,_,_,hz,hn⟩:=hW
  refine⟨MI,_,_,([]++pa)++pv,⟨[]++pa,pv,trodAll_append (hargs _ (fun _ _=>rfl)) (hres _ _ _),hvars _ (fun _ _=>rfl),rfl,?_,?_⟩,?_⟩
  ·intro b off hp
   rw[hfz _ (aY (.cell b off) (by rw[T2];simpa using hp))]
   exact hz b off (by rw[T2];simpa using hp)
  ·intro ha
   have:=hn ha
   rw[T2]at this
   simpa using this
  ·intro p hp _
   rw[T2]
   simpa using hp
def Cz(P:Program)(tab:List (Nat×aV)):Prop:=∀x,x∈tab→∃ fn,P.funcs[x.1]?=some fn∧aK P fn x.2.mode=some x.2
theorem Cz.nil{P:Program}:Cz P []:=fun x hx=>by cases hx
theorem Cz.cons{P:Program}{f:Nat}{df:aV}{fn:Func}{tab:List (Nat×aV)}(h1:P.funcs[f]?=some fn)(h2:aK P fn df.mode=some df)(h:Cz P tab):Cz P ((f,df)::tab):=fun x hx=>by
 rcases List.mem_cons.1 hx with rfl|hx
 ·exact⟨fn,h1,h2⟩
 ·exact h x hx
def E8:List (Nat×aV)→Nat→Option aV
 | [],_=>none
 | (k,d)::r,f=>if Nat.beq k f then some d else E8 r f
theorem S3{tab:List (Nat×aV)}{f:Nat}{d:aV}(h:E8 tab f=some d):(f,d)∈tab:=by
 induction tab with
 | nil=>cases h
 | cons x r ih =>
  obtain⟨k,d'⟩:=x
  simp only[E8]at h
  split at h
  ·rename_i he
   cases h
   rw[Nat.eq_of_beq_eq_true he]
   exact List.mem_cons_self ..
  ·exact List.mem_cons_of_mem _ (ih h)
end Go.Dm
/-
Part 30 of "Dm": what stands in the place of functions sW a body; tables with hooks.
-/
namespace Go.Dm
def qA(P:Program)(f:Nat)(hk:rS):Prop :=
 (∀args h d h' c vals,hk h args=some (d,h')→Rel h c→VRs c args vals→Ij P f vals.toArray h c h' d)∧∀h args v h',h.lim≤h.n→hk h args=some (v,h')→dZ h h'
def cO:rS:=fun h args =>
 match args with
 | [.sl i1 s1 _ _,.sl i2 s2 _ _] =>
  match h.get i1,h.get i2 with
  | some (.arr _ z1 _ _),some (.arr _ z2 xs _)=>if i1≠i2∧s1=z1∧s2=z2∧xs.length≠0 then some (.bool false,h)else none
  | _,_=>none
 | _=>none
theorem nP {P : Program} {f : Nat} {fn : Func} {tS tR e : TypeId} (hf : P.funcs[f]? = some fn) (Gr : (fn.name == "runtime.NumGoroutine") = false) (hb : fn.body.isNone = true) (hn : Extern.findNext fn = none)
  (he:Extern.find fn=some (Extern.SlicesOverlaps.overlaps #[tS,tS] #[tR])) (ht:P.underlying tS=some (.slice e)) (hi:(P.info? e).isSome=true):qA P f cO:=by
 obtain⟨i,hi⟩:=Option.isSome_iff_exists.1 hi
 refine⟨fun args h d h' c vals hs hR hv=>?_,fun h args v h' _ hs=>?_⟩
 ·unfold cO at hs
  split at hs
  ·rename_i i1 s1 o1 l1 i2 s2 o2 l2
   split at hs
   ·rename_i e1 z1 x1 c1 e2 z2 x2 c2 g1 g2
    split at hs
    ·rename_i bU
     obtain⟨cY,hs1,hs2,hx⟩:=bU
     cases hs
     have hl:=hv.1
     obtain⟨v1,v2,rfl⟩:∃ v1 v2,vals=[v1,v2]:=by
      cases vals with
      | nil=>simp at hl
      | cons a r=>cases r with
       | nil=>simp at hl
       | cons b r=>cases r with
        | nil=>exact⟨a,b,rfl⟩
        | cons c r=>simp at hl
     have w1:VR c (.sl i1 s1 o1 l1) v1:=hv.2 0 (by simp) (by simp)
     have w2:VR c (.sl i2 s2 o2 l2) v2:=hv.2 1 (by simp) (by simp)
     obtain⟨b1,base1,cap1,co1,n1,ty1,e1',r1,_⟩:=w1.sl_inv
     obtain⟨b2,base2,cap2,co2,n2,ty2,e2',r2,_⟩:=w2.sl_inv
     obtain⟨cur1,m1,p1,p2,p3,p4,p5,p6⟩:=hR.arr g1 r1
     obtain⟨cur2,m2,q1,q2,q3,q4,q5,q6⟩:=hR.arr g2 r2
     have hbne:b1≠b2:=fun eb=>cY (hR.inj i1 i2 _ _ b1 base1 base2 g1 g2 rfl rfl r1 (eb ▸ r2))
     have yP:∀a:Addr,a.block=b1→c.w.frozen? a=false:=fun a ha=>qX (ob:=.cells cur1 e1 (0,0)) (by rw[ha];exact p1) rfl
     refine .inl ⟨.bool false,c.w,?_,lF.pure hR (.bool false)⟩
     rw[run_callFunc_extern hf Gr hb hn he]
     have hJ:=Lib.run_overlaps_apart (P:=P) c.w tS tR e ht i.size (fun w=>by simp[sizeOf,typeInfo,hi]) ⟨b1,co1,none⟩ ⟨b2,co2,none⟩ l1 cap1 l2 cap2 hbne e1 e2 cur1.size cur2.size (dU p1) (dU q1)
      (by
       have:0<m2*z2:=Nat.mul_pos (by omega) q2
       omega) (yP _ rfl) (yP _ rfl)
     rw[e1',e2',hJ]
     rfl
    ·cases hs
   ·cases hs
  ·cases hs
 ·unfold cO at hs
  split at hs
  ·split at hs
   ·split at hs
    ·cases hs;exact .refl _
    ·cases hs
   ·cases hs
  ·cases hs
def qZ(P:Program)(hooks:List (Nat×rS)):Prop:=∀x,x∈hooks→qA P x.1 x.2
theorem qZ.nil{P:Program}:qZ P []:=fun x hx=>by cases hx
theorem qZ.cons{P:Program}{f:Nat}{hk:rS}{hooks:List (Nat×rS)}(h1:qA P f hk)(h:qZ P hooks):qZ P ((f,hk)::hooks):=fun x hx=>by
 rcases List.mem_cons.1 hx with rfl|hx
 ·exact h1
 ·exact h x hx
def E9:List (Nat×rS)→Nat→Option rS
 | [],_=>none
 | (k,d)::r,f=>if Nat.beq k f then some d else E9 r f
theorem Kx{hooks:List (Nat×rS)}{f:Nat}{d:rS}(h:E9 hooks f=some d):(f,d)∈hooks:=by
 induction hooks with
 | nil=>cases h
 | cons x r ih =>
  obtain⟨k,d'⟩:=x
  simp only[E9]at h
  split at h
  ·rename_i he
   cases h
   rw[Nat.eq_of_beq_eq_true he]
   exact List.mem_cons_self ..
  ·exact List.mem_cons_of_mem _ (ih h)
def Nz(tab:List (Nat×aV))(hooks:List (Nat×rS)):bV:={fn:=E8 tab,hook:=E9 hooks}
theorem zS{P:Program}{tab:List (Nat×aV)}{hooks:List (Nat×rS)}(hm:P.follows .mixedOrders=true)(ht:Cz P tab)(hh:qZ P hooks):Kc P (Nz tab hooks) where
 mixed:=hm
 comp:=fun f df h=>ht (f,df) (S3 h)
 hooks:=fun f hk h=>(hh (f,hk) (Kx h)).1
 keep:=fun f hk h=>(hh (f,hk) (Kx h)).2
end Go.Dm
/-
Part 36 of "Dm": what stands in the place of the comparing of two texts (a function sW a body).
-/
namespace Go.Dm
def lN:rS:=fun h args =>
 match args with
 | [.str a,.str b]=>some (.int .i64 (Go.Lib.compareBytes a b),h)
 | _=>none
theorem A7 {P : Program} {f : Nat} {fn : Func} (hf : P.funcs[f]? = some fn) (Gr : (fn.name == "runtime.NumGoroutine") = false) (hb : fn.body.isNone = true) (hn : Extern.findNext fn = none)
  (he:Extern.find fn=some Extern.BytealgCompare.compare):qA P f lN:=by
 refine⟨fun args h d h' c vals hs hR hv=>?_,fun h args v h' _ hs=>?_⟩
 ·unfold lN at hs
  split at hs
  ·rename_i a b
   cases hs
   have hl:=hv.1
   obtain⟨v1,v2,rfl⟩:∃ v1 v2,vals=[v1,v2]:=by
    cases vals with
    | nil=>simp at hl
    | cons a r=>cases r with
     | nil=>simp at hl
     | cons b r=>cases r with
      | nil=>exact⟨a,b,rfl⟩
      | cons c r=>simp at hl
   have w1:VR c (.str a) v1:=hv.2 0 (by simp) (by simp)
   have w2:VR c (.str b) v2:=hv.2 1 (by simp) (by simp)
   have e1:=w1.str_inv
   have e2:=w2.str_inv
   subst e1
   subst e2
   refine .inl ⟨.int .i64 (Go.Lib.compareBytes a b),c.w,?_,lF.pure hR (.int .i64 _)⟩
   rw[run_callFunc_extern hf Gr hb hn he]
   have hJ:=Lib.run_compareString (P:=P) ⟨a.toArray⟩ ⟨b.toArray⟩ c.w
   simp only at hJ
   rw[hJ]
   rfl
  ·cases hs
 ·unfold lN at hs
  split at hs
  ·cases hs;exact .refl _
  ·cases hs
end Go.Dm
/-
Part 32 of "Dm": what stands in the place of slices.Clone: whether a slice sW elements is nil is not asked.
-/
namespace Go.Dm
def cH(ety sz bytes:Nat):rS:=fun h args =>
 match args with
 | [v]=>match elems h sz v with
  | some ys =>
   if ys.isEmpty then some (.nsl,h.push .dead)
   else if ys.length*bytes≤140737488355328∧ys.length≤9223372036854775807 then some (.sl (h.n+1) sz 0 ys.length,(h.push (.arr ety sz [] (some 0))).push (.arr ety sz ys none))
   else none
  | none=>none
 | _=>none
def RH:bV:={fn:=fun _=>none,hook:=fun _=>none}
theorem Yh{P:Program}(hm:P.follows .mixedOrders=true):Kc P RH where
 mixed:=hm
 comp:=fun f df h=>by cases h
 hooks:=fun f hk h=>by cases h
 keep:=fun f hk h=>by cases h
theorem Zp{h:aA}{o:DO}{sz:Nat}{v:DV}{ys:List DV}(he:elems h sz v=some ys):elems (h.push o) sz v=some ys:=by
 unfold elems at he ⊢
 split at he
 ·exact he
 ·exact he
 ·split at he
  ·rename_i hg
   rw[bP (dH hg),hg]
   exact he
  ·cases he
 ·cases he
theorem Rel.pushDead{h:aA}{c:Ctx}(hR:Rel h c):∃ ρ',Rel (h.push .dead) (c.next c.w ρ' (h.push .dead))∧bR c (c.next c.w ρ' (h.push .dead)):=by
 obtain⟨k1,k2⟩:=hR.push .dead c.w c.w.heap.size 0 (Nat.le_refl _) (Nat.le_refl _) (fun _ _=>rfl) (.refl _) (fun _=>trivial)
 exact⟨_,k1,k2⟩
theorem Q0{h:aA}{o:DO}:(h.push o).set h.n .dead=h.push .dead:=by
 simp[aA.push,aA.set]
theorem Mu{P:Program}{t e:TypeId}(hu:P.underlying t=some (.slice e))(ad:Option Addr)(n cap:Nat)(k:Nat)(w:World) :
  (Op.equalIn (k+1) t (.slice ad n cap) (.slice none 0 0)).run P w=.ok ad.isNone w:=by
 cases ad<;>simp[Op.equalIn,run_underlying hu]
theorem Ri{P:Program}{t e:TypeId}(hu:P.underlying t=some (.slice e))(ad:Option Addr)(n cap:Nat)(w:World) :
  (Op.equal t (.slice ad n cap) (.slice none 0 0)).run P w=.ok ad.isNone w:=Mu hu ad n cap 9999 w
structure pP(P:Program)(fn:Func)(ety sz bytes:Nat)(z:DV) where
 (r0 r1 r2 r3:Nat) (os0 os2 os3:Array Oper) (o2 o3:Oper) (t u:TypeId) (e:TypeId)
 body:fn.body=some (.seq (.region r0 os0 false) (.seq (.seq (.region r1 #[o2,o3] false) (.cond (.tmp 4) (.seq (.region r2 os2 false) .ret) .skip)) (.seq (.region r3 os3 false) .ret)))
 hA:bX P (.region r0 os0 false)=some (.region [⟨some 2,.move (.c .nsl),none,.write,0,false⟩])
 h2:dI P [o2,o3] .write 0 o2=some ⟨some 3,.move (.t 0),none,.write,0,false⟩
 h3:o3.op=.binOp .eql t (.tmp 3) (.const (.slice none 0 0)) u
 h3d:o3.dst=some 4
 h3g:o3.guard.isNone=true
 hu:P.underlying t=some (.slice e)
 hC:bX P (.seq (.region r2 os2 false) .ret)=some (.seq (.region [⟨some 2,.move (.c .nsl),none,.write,0,false⟩]) .ret)
 hD:bX P (.seq (.region r3 os3 false) .ret)=some (.seq (.region [⟨some 5,.buildSlice ety sz z 0 [],none,.write,0,false⟩,⟨some 6,.move (.t 0),none,.write,0,false⟩,⟨some 7,.append ety sz bytes (.t 5) (.t 6),none,.write,0,false⟩,⟨some 2,.move (.t 7),none,.write,0,false⟩]) .ret)
 nt:fn.ntmps=8
 rs:fn.results=#[.tmp 2]
theorem vQ {P : Program} {f : Nat} {fn : Func} {ety sz bytes : Nat} {z : DV} (hm : P.follows .mixedOrders = true) (hf : P.funcs[f]? = some fn) (Gr : (fn.name == "runtime.NumGoroutine") = false) (T : pP P fn ety sz bytes z) :
  qA P f (cH ety sz bytes):=by
 refine⟨fun args h d h' c vals hs hR hv=>?_,fun h args v h' hl hs=>?_⟩
 ·unfold cH at hs
  split at hs
  ·rename_i x
   split at hs
   ·rename_i ys yN
    obtain⟨v,rfl⟩:∃ v,vals=[v]:=by
     have:=hv.1
     cases vals with
     | nil=>simp at this
     | cons a r=>cases r with
      | nil=>exact⟨a,rfl⟩
      | cons b r=>simp at this
    have dN:VR c x v:=hv.2 0 (by simp) (by simp)
    obtain⟨ad,cap,news,e1,e2,e3,e4,e5⟩:=lM hR yN dN
    have Dy:=(Ht (Yh hm) 3).1
    have hname' : fn.name ≠ "runtime.NumGoroutine" := by simpa using Gr
    refine .inr ⟨f,#[v],mC hf T.body hname' _ _,?_⟩
    refine calls_of_wp hf T.body ?_
    have hE0:cI c [x,bN,bN,bN,bN,bN,bN,bN] {tmps:=#[v]++Array.replicate (fn.ntmps-1) Go.undef,defers:=[]}:=by
     have:=Lf hv 8
     rw[T.nt]
     exact this
    have hend:∀(aT:Env) (h1:aA) (a':Act) (w':World),St c h1 aT a' w'→∀d1,aT[2]?=some d1→(∀ρ' u,Rel h1 (c.next w' ρ' h1)→bR c (c.next w' ρ' h1)→VR (c.next w' ρ' h1) d1 u→lF h c h' w' d u) →
      (a'.defers=[]∧∃ u,(results fn a'.tmps).run P w'=.ok u w'∧sQ h c h' d (.returned u) w'):=by
     intro aT h1 a' w' dD d1 Zc hpost
     obtain⟨ρ',k1,k2,k3⟩:=dD
     obtain⟨aY,hd1'⟩:=List.getElem?_eq_some_iff.1 Zc
     have hvr:=k3.val 2 aY
     rw[hd1']at hvr
     refine⟨k3.defers,a'.tmps.getD 2 Go.undef,?_,_,rfl,hpost ρ' _ k1 k2 hvr⟩
     rw[Fi,T.rs]
     simp[uW]
    refine wp_seq ?_
    refine Dy _ _ h c _ _ .normal ([x,bN,.nsl,bN,bN,bN,bN,bN]) h _ T.hA rfl hR hE0 fun a1 w1 hst1=>?_
    obtain⟨ρ1,k1,k2,k3⟩:=hst1
    show Code.wp P _ _ a1 w1
    refine wp_seq ?_
    refine wp_seq ?_
    refine wp_region_list ?_
    refine wpList_step fun K hK=>?_
    obtain⟨c1,c2,c3,_,_⟩:=iM T.h2
    have ks1:Rel h (c.next w1 ρ1 h):=k1
    rw[if_pos (by
     have:=gK (ops:=[T.o2,T.o3]) (c:=c.next w1 ρ1 h) (b:=true) c2 k3 rfl
     exact this)]
    refine sB (P:=P) (call:=fun _ _ _=>none) (fun f args h d h' c vals hc=>by cases hc) c1 ks1 k3 (r:=x) (h':=h) (by rfl) K _ fun u2 w2 MH=>?_
    obtain⟨ρ2,q1,q2,q3⟩:=MH
    rw[Bf]at q1 q2 q3
    refine hK _ _ ?_
    have c3':T.o2.dst=some 3:=c3.symm
    have hE2:cI (c.next w2 ρ2 h) [x,bN,.nsl,x,bN,bN,bN,bN] (a1.put T.o2.dst u2):=by
     rw[c3']
     exact(k3.mono q2).put q3 (some 3)
    refine wpList_step fun K2 hK2=>?_
    rw[if_pos (by
     have:=T.h3g
     have:T.o3.guard=none:=by simpa using this
     simp[Region.wanted,this])]
    have hx3:(a1.put T.o2.dst u2).eval (.tmp 3)=u2:=by
     have eI:3<a1.tmps.size:=by rw[k3.size];simp
     rw[c3']
     simp[Act.eval,Act.put,eI]
    obtain⟨ad2,cap2,news2,f1,f2,f3,f4,f5⟩:=lM q1 yN q3
    have Z2:(execOp (a1.put T.o2.dst u2).eval T.o3).run P w2=.ok (.value (.bool ad2.isNone)) w2:=by
     have hc4:(a1.put T.o2.dst u2).eval (.const (.slice none 0 0))=.slice none 0 0:=rfl
     have hg:(eqGuard .eql T.t (.tmp 3) (.const (.slice none 0 0)) (.slice ad2 ys.length cap2) (.slice none 0 0)).run P w2=.ok () w2:=by
      unfold eqGuard;simp
     have hb:(binOp .eql T.t (.slice ad2 ys.length cap2) (.slice none 0 0)).run P w2=.ok (.bool ad2.isNone) w2:=by
      simp[binOp,Ri T.hu]
     simp[execOp,T.h3,hx3.trans f1,hc4,hg,hb]
    have ho3:LV P T.o3 (a1.put T.o2.dst u2) h (c.next w2 ρ2 h) h (.bool ad2.isNone):=by
     intro K Q hK
     unfold Oper.wp
     rw[show(c.next w2 ρ2 h).w=w2 from rfl,Z2]
     exact hK _ w2 (lF.pure q1 (.bool _))
    refine ho3 K2 _ fun u3 w3 hp3=>?_
    obtain⟨ρ3,p1,p2,p3⟩:=hp3
    rw[Bf]at p1 p2 p3
    refine hK2 _ _ ?_
    have hE3:cI (c.next w3 ρ3 h) [x,bN,.nsl,x,.bool ad2.isNone,bN,bN,bN] ((a1.put T.o2.dst u2).put T.o3.dst u3):=by
     rw[T.h3d]
     exact(hE2.mono p2).put p3 (some 4)
    have oC:bR c (c.next w3 ρ3 h):=(k2.trans q2).trans p2
    have ht4:((a1.put T.o2.dst u2).put T.o3.dst u3).eval (.tmp 4)=.bool ad2.isNone:=by
     have:=hE3.val 4 (by simp)
     have:=this.bool_inv
     simpa[Act.eval]using this
    refine wpList_nil ?_
    show Code.wp P _ _ _ w3
    cases had:ad2 with
    | none =>
     rw[had]at ht4
     refine wp_cond_true ht4 ?_
     refine Dy _ _ h (c.next w3 ρ3 h) _ _ .ret ([x,bN,.nsl,x,.bool ad2.isNone,bN,bN,bN]) h _ T.hC (by rfl) p1 hE3 fun a4 w4 Yw=>?_
     have hst4':St c h [x,bN,.nsl,x,.bool ad2.isNone,bN,bN,bN] a4 w4:=Yw.trans oC
     have hy:ys=[]:=f4 had
     rw[if_pos (by rw[hy];rfl)]at hs
     cases hs
     refine hend _ h a4 w4 hst4' .nsl rfl fun ρ' u g1 g2 g3=>?_
     obtain⟨ρ'',m1,m2⟩:=g1.pushDead
     exact⟨ρ'',m1,g2.trans m2,g3.mono m2⟩
    | some adr =>
     rw[had]at ht4
     refine wp_cond_false ht4 ?_
     refine wp_skip ?_
     show Code.wp P _ _ _ w3
     have nI:=Zp (o:=.arr ety sz [] (some 0)) yN
     by_cases hy:ys.isEmpty=true
     ·rw[if_pos hy]at hs
      cases hs
      have hyn:ys=[]:=by simpa using hy
      refine Dy _ _ h (c.next w3 ρ3 h) _ _ .ret ([x,bN,.sl h.n sz 0 0,x,.bool ad2.isNone,.sl h.n sz 0 0,x,.sl h.n sz 0 0]) (h.push (.arr ety sz [] (some 0))) _ T.hD
       (by simp[cZ,eO,gN,bH,aC,Opd.eval,Dm.put,dF,nI,bF,hyn]) p1 hE3 fun a4 w4 Yw=>?_
      have hst4':=Yw.trans oC
      refine hend _ _ a4 w4 hst4' (.sl h.n sz 0 0) rfl fun ρ' u g1 g2 g3=>?_
      obtain⟨b,base,fU,gX,nn,nT,rfl,hρ,eC,zU,zX,Di⟩:=g3.sl_inv
      have hgn:(h.push (.arr ety sz [] (some 0))).get h.n=some (.arr ety sz [] (some 0)):=bQ
      obtain⟨cur,m,g4,g5,g6,g7,g8,g9⟩:=g1.arr hgn hρ
      rw[dU g4]at eC
      cases eC
      have F9:m=0:=by have:=(g8 0 rfl).1;omega
      have hU:fU=0:=by
       have:fU*sz=0:=by rw[F9]at g6;omega
       rcases Nat.mul_eq_zero.1 this with e|e
       ·exact e
       ·omega
      subst hU
      obtain⟨m1,m2⟩:=g1.kill hgn
      rw[Q0]at m1 m2
      exact⟨ρ',m1,g2.trans m2,.nsl _⟩
     ·rw[if_neg hy]at hs
      split at hs
      ·rename_i hb
       cases hs
       have hyp:¬ys.length=0:=fun e=>hy (by simpa using List.eq_nil_of_length_eq_zero e)
       have hyf:ys.isEmpty=false:=by simpa using hy
       have hgn:(h.push (.arr ety sz [] (some 0))).get h.n=some (.arr ety sz [] (some 0)):=bQ
       refine Dy _ _ h (c.next w3 ρ3 h) _ _ .ret ([x,bN,.sl (h.n+1) sz 0 ys.length,x,.bool ad2.isNone,.sl h.n sz 0 0,x,.sl (h.n+1) sz 0 ys.length]) ((h.push (.arr ety sz [] (some 0))).push (.arr ety sz ys none)) _ T.hD
        (by
         have KU:bF (h.push (.arr ety sz [] (some 0))) ety sz bytes (.sl h.n sz 0 0) ys=some (.sl (h.n+1) sz 0 ys.length,(h.push (.arr ety sz [] (some 0))).push (.arr ety sz ys none)):=by
          simp only[bF,hyf,Bool.false_eq_true,if_false,hgn]
          rw[if_pos (by simpa using hb),if_neg (show ¬0+(0+ys.length)≤([]:List DV).length from fun cM=>hyp (by have:([]:List DV).length=0:=rfl;omega))]
          simp[Bg]
         simp[cZ,eO,gN,bH,aC,Opd.eval,Dm.put,dF,nI,KU]) p1 hE3 fun a4 w4 Yw=>?_
       have hst4':=Yw.trans oC
       refine hend _ _ a4 w4 hst4' (.sl (h.n+1) sz 0 ys.length) rfl fun ρ' u g1 g2 g3=>?_
       exact⟨ρ',g1,g2,g3⟩
      ·cases hs
   ·cases hs
  ·cases hs
 ·unfold cH at hs
  split at hs
  ·split at hs
   ·split at hs
    ·cases hs;exact .push hl _
    ·split at hs
     ·cases hs;exact(dZ.push hl _).trans (.push (Nat.le_succ_of_le hl) _)
     ·cases hs
   ·cases hs
  ·cases hs
end Go.Dm
/-
Part 33 of "Dm": what stands in the place of errors.As, at the two targets that occur: an error number, a fault.
-/
namespace Go.Dm
open Go.RowKit
def BP:DV→Option DV
 | .ptr id sz idx off=>some (.ptr id sz idx (off+2))
 | .iptr l cs off=>some (.iptr l cs (off+2))
 | _=>none
def H5(tE tF:TypeId)(h:aA):Nat→DV→Option (Option DV)
 | 0,_=>none
 | n+1,d=>match d with
  | .iface t x =>
   if t=tE then(match x with|.int .i64 k=>some (some (.int .i64 k))|_=>none)
   else if t=tF then
    match BP x with
    | some y=>match kB h none y with
     | some .nili=>some none
     | some d'=>H5 tE tF h n d'
     | none=>none
    | none=>none
   else none
  | _=>none
def WE(tE tF tPE tPF:TypeId):rS:=fun h args =>
 match args with
 | [.nili,_]=>some (.bool false,h)
 | [.iface t x,.iface t' (.ptr id sz idx off)] =>
  if t'=tPE then
   match H5 tE tF h 50 (.iface t x)with
   | some (some k)=>match kX h 1 (.ptr id sz idx off) k with|some h'=>some (.bool true,h')|none=>none
   | some none=>if(kX h 1 (.ptr id sz idx off) (.int .i64 0)).isSome then some (.bool false,h)else none
   | none=>none
  else if t'=tPF then
   if t=tF then
    match BP x with
    | some _=>match kX h 1 (.ptr id sz idx off) x with|some h'=>some (.bool true,h')|none=>none
    | none=>none
   else if t=tE then(match x with|.int .i64 _=>some (.bool false,h)|_=>none)
   else none
  else none
 | _=>none
inductive wA(tE tF:TypeId)(w:World):Value→Option Int→Nat→Prop
 | hit (n:Int):wA tE tF w (.iface tE (.int .i64 n)) (some n) 0
 | step (b o:Nat) (v:Value) (r:Option Int) (n:Nat):w.cell? ⟨b,o+2,none⟩=some v→wA tE tF w v r n→wA tE tF w (.iface tF (.pointer (some ⟨b,o,none⟩))) r (n+1)
 | stop (b o:Nat):w.cell? ⟨b,o+2,none⟩=some .nilIface→wA tE tF w (.iface tF (.pointer (some ⟨b,o,none⟩))) none 0
structure WN(P:Program)(f:Nat)(fn:Func)(tE tF tPE tPF:TypeId):Prop where
 hf:P.funcs[f]?=some fn
 hb:fn.body.isSome=true
 hn : (fn.name == "runtime.NumGoroutine") = false
 nil:∀(t:Value) (w:World),Calls P f #[.nilIface,t] w fun e w'=>e=.returned (.bool false)∧w'=w
 num:∀(v:Value) (r:Option Int) (n:Nat) (p:Addr) (old:Value) (w:World),Vj w→wA tE tF w v r n→w.cell? p=some old→w.frozen? p=false →
  Calls P f #[v,.iface tPE (.pointer (some p))] w fun e w'=>e=.returned (.bool r.isSome)∧∃ w1,(Below w.heap.size w w1∧(∀a,w1.frozen? a=w.frozen? a)∧w.drawn≤w1.drawn)∧w'=match r with|some n=>w1.setCell p (.int .i64 n)|none=>w1
 hit:∀(q p:Addr) (old:Value) (w:World),Vj w→w.cell? p=some old→w.frozen? p=false →
  Calls P f #[.iface tF (.pointer (some q)),.iface tPF (.pointer (some p))] w fun e w'=>e=.returned (.bool true)∧∃ w1,(Below w.heap.size w w1∧(∀a,w1.frozen? a=w.frozen? a)∧w.drawn≤w1.drawn)∧w'=w1.setCell p (.pointer (some q))
 miss:∀(n:Int) (p:Addr) (w:World),Vj w →
  Calls P f #[.iface tE (.int .i64 n),.iface tPF (.pointer (some p))] w fun e w'=>e=.returned (.bool false)∧Below w.heap.size w w'∧(∀a,w'.frozen? a=w.frozen? a)∧w.drawn≤w'.drawn
theorem Rel.grow{h:aA}{c:Ctx}(hR:Rel h c){w1:World}(hb:Below c.w.heap.size c.w w1)(hf:∀a,a.block<c.w.heap.size→w1.frozen? a=c.w.frozen? a)(hd:c.w.drawn≤w1.drawn):Rel h (c.next w1 c.ρ h)∧bR c (c.next w1 c.ρ h):=by
 have hO:∀b,(iS h c.ρ b∨c.E b)↔c.O b:=fun b=>(hR.own b).symm
 have jD:∀b,b<c.w.heap.size→w1.heap[b]?=c.w.heap[b]?:=hb.block
 have oC:bR c (c.next w1 c.ρ h) :=
  ⟨fun _ _ hp=>hp,hb.size,fun b Vo _=>jD b Vo,fun b Vo=>.inl ((hO b).1 Vo),fun b e n hs=>by
   have:=Ez hs
   simp only[World.shape?,Ctx.next]at hs ⊢
   rw[jD b this];exact hs,fun _ hx=>hx,fun b Vo hE=>⟨hE,jD b Vo⟩,⟨hb.os,hb.output,hb.tape,hd,hb.size,hf⟩,rfl⟩
 exact⟨⟨hR.len,hR.lim,hR.dom,fun id o hg=>(hR.obj id o hg).mono oC (fun ha b x hr=>jD b (hR.block_lt hg ha hr)),hR.inj,fun _=>Iff.rfl,fun b Vo=>hR.notX b ((hO b).1 Vo),fun b Vo=>Nat.lt_of_lt_of_le (hR.old b Vo) hb.size,
  fun b Vo=>⟨Nat.lt_of_lt_of_le (hR.pend b Vo).1 hb.size,(hR.pend b Vo).2⟩,hR.glob.mono oC⟩,oC⟩
end Go.Dm
/-
Part 41 of "Dm": slices.Clone whose row is written no more.
-/
namespace Go.Dm
def Nw(ety sz bytes:Nat):rS:=fun h args =>
 match cH ety sz bytes h args with
 | some (v,h1)=>gI h1 v
 | none=>none
theorem lF.frozen{h h1 h2:aA}{c:Ctx}{w:World}{d d':DV}{v:Value}(hp:lF h c h1 w d v)(hf:gI h1 d=some (d',h2)):lF h c h2 w d' v:=by
 obtain⟨ρ,k1,k2,k3⟩:=hp
 obtain⟨⟨q1,q2⟩,q3⟩:=tU k1 k3 hf
 exact⟨ρ,q1,k2.trans q2,q3⟩
theorem TM{P:Program}{f:Nat}{ety sz bytes:Nat}(hk:qA P f (cH ety sz bytes)):qA P f (Nw ety sz bytes):=by
 refine⟨fun args h d h' c vals hs hR hv=>?_,fun h args v h' hl hs=>?_⟩
 ·unfold Nw at hs
  split at hs
  ·rename_i v h1 hc
   rcases hk.1 args h v h1 c vals hc hR hv with⟨u,w',k1,k2⟩|⟨f',vals',k1,k2⟩
   ·exact .inl ⟨u,w',k1,k2.frozen hs⟩
   ·exact .inr ⟨f',vals',k1,k2.mono fun e w hp=>by
     obtain⟨u,rfl,hp⟩:=hp
     exact⟨u,rfl,hp.frozen hs⟩⟩
  ·cases hs
 ·unfold Nw at hs
  split at hs
  ·rename_i u h1 hc
   exact(hk.2 h args u h1 hl hc).trans (tV hs)
  ·cases hs
end Go.Dm
/-
Part 42 of "Dm": what stands in the place of slices.Sort of ints and of slices.SortFunc of pairs of ints: the row sorted.
-/
namespace Go.Dm
def Sz{α:Type}(lt:α→α→Bool)(x:α):List α→List α
 | []=>[x]
 | y::r=>if lt y x=true then y::Sz lt x r else x::y::r
def kH{α:Type}(lt:α→α→Bool)(l:List α):List α:=l.foldr (Sz lt) []
def ltZ(a b:Int):Bool:=decide (a<b)
def ltP(a b:Int×Int):Bool:=decide (a.1<b.1∨(a.1=b.1∧a.2<b.2))
def unI:DV→Option Int
 | .int .i64 n=>some n
 | _=>none
def unP:DV→Option (Int×Int)
 | .agg [.int .i64 a,.int .i64 b]=>some (a,b)
 | _=>none
def mkI(n:Int):DV:=.int .i64 n
def mkP(p:Int×Int):DV:=.agg [.int .i64 p.1,.int .i64 p.2]
def wD{α:Type}(sz:Nat)(un:DV→Option α)(mk:α→DV)(lt:α→α→Bool)(h:aA):DV→Option (DV×aA)
 | .nsl=>some (.tup [],h)
 | .sl id dT off len=>match h.get id with
  | some (.arr ety kE xs cap) =>
   if sz=dT∧sz=kE∧h.lim≤id∧off+len≤xs.length∧len<4611686018427387904 then
    match((xs.drop off).take len).mapM un with
    | some zs=>some (.tup [],h.set id (.arr ety sz (cN xs ((kH lt zs).map mk) off) cap))
    | none=>none
   else none
  | _=>none
 | _=>none
def rU:rS:=fun h args=>match args with
 | [v]=>wD 1 unI mkI ltZ h v
 | _=>none
def wE(g:Nat):rS:=fun h args=>match args with
 | [v,.func g' []]=>if Nat.beq g' g=true then wD 2 unP mkP ltP h v else none
 | _=>none
end Go.Dm
/-
Part 43 of "Dm": a row sorted is what the library's sorting leaves.
-/
namespace Go.Dm
structure Ig(P:Program)(f:FuncId)(k:Nat)(extra:List Value){α:Type}(enc:α→List Value)(lt:α→α→Bool):Prop where
 enter:∀args w,(callFunc f args).run P w=.ok (.enter f args) w
 none:∀(a:Option Addr) (cap:Nat) (w:World),Calls P f (.slice a 0 cap::extra).toArray w fun e w'=>e=.returned (.tuple #[])∧w'=w
 row:∀(b co cap:Nat) (zs:List α) (w:World),zs.length<4611686018427387904→b<w.heap.size→(∀b' v,Ol=some (b',v)→b'≠b∧b'<w.heap.size∧w.cell? ⟨b',0,Option.none⟩=some v) →
  (∀i (hi:i<zs.length) j,j<k→w.cell? ⟨b,co+i*k+j,Option.none⟩=(enc zs[i])[j]?∧w.frozen? ⟨b,co+i*k+j,Option.none⟩=false) →
  Calls P f (.slice (some ⟨b,co,Option.none⟩) zs.length cap::extra).toArray w fun e w'=>e=.returned (.tuple #[])∧∃ n os,w'=Sort.grow (Sort.putRow id (Sort.ahead w n) b co ((kH lt zs).flatMap enc).toArray) os
theorem Jo{h:aA}{id:Nat}{o:DO}(hg:h.get id=some o):h.set id o=h:=by
 have aY:=dH hg
 unfold aA.get at hg
 rw[if_pos aY]at hg
 unfold aA.set
 have:h.objs.set (h.n-1-id) o=h.objs:=by
  apply List.ext_getElem?
  intro j
  rw[List.getElem?_set]
  by_cases e:h.n-1-id=j
  ·subst e
   rw[if_pos rfl]
   split
   ·exact hg.symm
   ·rename_i hh;rw[List.getElem?_eq_none (by omega)]
  ·rw[if_neg e]
 rw[this]
theorem Cl{α:Type}{un:DV→Option α}:∀{l:List DV} {zs:List α},l.mapM un=some zs→zs.length=l.length∧∀i (h1:i<l.length) (h2:i<zs.length),un l[i]=some zs[i]
 | [],zs,h=>by
  simp at h
  subst h
  exact⟨rfl,fun i h1=>absurd h1 (Nat.not_lt_zero _)⟩
 | d::l,zs,h=>by
  rw[List.mapM_cons]at h
  cases h1:un d with
  | none=>simp[h1]at h
  | some z =>
   cases h2:l.mapM un with
   | none=>simp[h1,h2]at h
   | some r =>
    simp[h1,h2]at h
    subst h
    obtain⟨e1,e2⟩:=Cl h2
    refine⟨by simp[e1],fun i a1 a2=>?_⟩
    cases i with
    | zero=>exact h1
    | succ i=>exact e2 i (by simpa using a1) (by simpa using a2)
theorem P7{w:World}{b p:Nat}{cur:Array Value}{ety:TypeId}(g1:w.heap[b]?=some (.cells cur ety (0,0)))(vs:List Value)(hp:p+vs.length≤cur.size) :
  (Sort.putRow id w b p vs.toArray).heap=(w.setRow b (spl cur p vs)).heap:=by
 apply Array.ext_getElem?
 intro q
 by_cases hq:q=b
 ·subst hq
  rw[setRow_heap w q cur _ ety (0,0) g1]
  simp only[Sort.putRow,Sort.mapBlock,Array.getElem?_modify,if_true,g1,Option.map_some,Sort.onCells]
  congr 2
  apply Array.ext_getElem?
  intro j
  rw[qK hp]
  simp only[Sort.putCells,Array.getElem?_mapIdx,List.size_toArray]
  by_cases h1:j<p
  ·rw[if_pos h1]
   have:¬(p≤j∧j<p+vs.length):=by omega
   simp[this]
  ·rw[if_neg h1]
   by_cases h2:j<p+vs.length
   ·rw[if_pos h2]
    have h3:p≤j∧j<p+vs.length:=by omega
    have h4:j<cur.size:=by omega
    have h5:j-p<vs.length:=by omega
    simp[h3,h4,h5]
   ·rw[if_neg h2]
    have:¬(p≤j∧j<p+vs.length):=by omega
    simp[this]
 ·rw[setRow_other _ _ _ _ hq]
  simp only[Sort.putRow,Sort.mapBlock,Array.getElem?_modify]
  rw[if_neg (fun e=>hq e.symm)]
theorem qV{α:Type}{enc:α→List Value}{k:Nat}(hk:∀z,(enc z).length=k):∀(zs:List α) (i:Nat) (hi:i<zs.length) (j:Nat),j<k→(zs.flatMap enc)[i*k+j]?=(enc zs[i])[j]?
 | [],i,hi,_,_=>absurd hi (Nat.not_lt_zero _)
 | z::zs,0,_,j,hj=>by
  simp only[List.flatMap_cons,Nat.zero_mul,Nat.zero_add,List.getElem_cons_zero]
  rw[List.getElem?_append_left (by rw[hk];exact hj)]
 | z::zs,i+1,hi,j,hj=>by
  simp only[List.flatMap_cons,List.getElem_cons_succ]
  rw[List.getElem?_append_right (by rw[hk,Nat.add_mul];omega),hk,←qV hk zs i (by simpa using hi) j hj]
  congr 1
  rw[Nat.add_mul];omega
theorem vH{α:Type}{enc:α→List Value}{k:Nat}(hk:∀z,(enc z).length=k)(zs:List α):(zs.flatMap enc).length=zs.length*k:=by
 induction zs with
 | nil=>simp
 | cons z zs ih=>simp only[List.flatMap_cons,List.length_append,hk,ih,List.length_cons,Nat.add_mul];omega
theorem EI{α:Type}(lt:α→α→Bool)(x:α)(l:List α):(Sz lt x l).length=l.length+1:=by
 induction l with
 | nil=>rfl
 | cons y r ih =>
  simp only[Sz]
  split
  ·simp[ih]
  ·rfl
theorem Ys{α:Type}(lt:α→α→Bool)(l:List α):(kH lt l).length=l.length:=by
 unfold kH
 induction l with
 | nil=>rfl
 | cons x r ih=>rw[List.foldr_cons,EI,ih];rfl
theorem xB{P:Program}{f:FuncId}{k:Nat}{extra:List Value}{α:Type}{enc:α→List Value}{lt:α→α→Bool}{un:DV→Option α}{mk:α→DV}(C:Ig P f k extra enc lt)(hk:∀z,(enc z).length=k)(h1:∀z,∀v∈enc z,v.oneCell'=true)
  (GK:∀d z,un d=some z→∀(c:Ctx) (j:Nat) (e:DV) (v:Value),(aF k d)[j]?=some e→VR c e v→(enc z)[j]?=some v) (GM:∀z,(aF k (mk z)).length=k∧∀(c:Ctx) (j:Nat) (e:DV),(aF k (mk z))[j]?=some e→∃ u,(enc z)[j]?=some u∧VR c e u)
  {h h':aA} {c:Ctx} {d r:DV} {v:Value} (hR:Rel h c) (hv:VR c d v) (hs:wD k un mk lt h d=some (r,h')):Calls P f (v::extra).toArray c.w (sQ h c h' r):=by
 have unit:∀c:Ctx,VR c (.tup []) (.tuple #[]):=fun c=>VR.tup (c:=c) (ds:=[]) (vs:=[]) rfl (fun i h1=>absurd h1 (Nat.not_lt_zero _))
 unfold wD at hs
 split at hs
 ·cases hs
  obtain⟨a,rfl⟩:=hv.nsl_inv
  refine(C.none a 0 c.w).mono fun e w' ⟨he,hw⟩=>⟨_,he,?_⟩
  rw[hw]
  exact lF.pure hR (unit c)
 ·rename_i id dT off len
  split at hs
  ·rename_i ety kE xs cap hg
   split at hs
   ·rename_i bU
    obtain⟨e1,e2,aS,cM,hbig⟩:=bU
    subst e1;subst e2
    split at hs
    ·rename_i zs hz
     cases hs
     obtain⟨z1,z2⟩:=Cl hz
     have KR:((xs.drop off).take len).length=len:=by rw[List.length_take,List.length_drop];omega
     rw[KR]at z1
     obtain⟨b,base,fU,gX,nn,nT,rfl,hρ,eC,zU,zX,Di⟩:=hv.sl_inv
     obtain⟨cur,mm,g1,g2,g3,g4,g5,g6⟩:=hR.arr hg hρ
     by_cases G0:len=0
     ·subst G0
      have hz0:zs=[]:=List.length_eq_zero_iff.1 z1
      subst hz0
      have hsp:cN xs ((kH lt ([]:List α)).map mk) off=xs:=by
       apply List.ext_getElem?
       intro q
       rw[Es (by simp[kH];omega)]
       split
       ·rfl
       ·rw[if_neg (by simp[kH];omega)]
      rw[hsp,Jo hg]
      refine(C.none _ fU c.w).mono fun e w' ⟨he,hw⟩=>⟨_,he,?_⟩
      rw[hw]
      exact lF.pure hR (unit c)
     ·have nS:gX=base+off*k:=Di.elim (fun e=>e) (fun e=>by omega)
      subst nS
      have Vo:b<c.w.heap.size:=(Array.getElem?_eq_some_iff.1 g1).1
      have hcells:∀i (hi:i<zs.length) j,j<k→c.w.cell? ⟨b,base+off*k+i*k+j,none⟩=(enc zs[i])[j]?∧c.w.frozen? ⟨b,base+off*k+i*k+j,none⟩=false:=fun i hi j hj=>by
       refine⟨?_,qX (ob:=.cells cur ety (0,0)) g1 rfl⟩
       have hxi:off+i<xs.length:=by omega
       have hu:=z2 i (by rw[KR];omega) hi
       rw[List.getElem_take,List.getElem_drop]at hu
       obtain⟨p1,p2⟩:=g6 (off+i) hxi
       obtain⟨u,q1,q2,q3⟩:=p2 j (by rw[p1];exact hj)
       have q4:=GK _ _ hu c j _ u (List.getElem?_eq_getElem (by rw[p1];exact hj)) q3
       rw[q4]
       have uG:base+off*k+i*k+j=base+(off+i)*k+j:=by rw[Nat.add_mul];omega
       rw[uG,←q1]
       simp[World.cell?,g1]
      have MG:=Ys lt zs
      have iT:jF c k ((kH lt zs).map mk) ((kH lt zs).flatMap enc):=by
       refine⟨by rw[vH hk,List.length_map],fun u hu=>?_,fun i d hd=>?_⟩
       ·obtain⟨z,_,hz⟩:=List.mem_flatMap.1 hu
        exact h1 z u hz
       ·rw[List.getElem?_map]at hd
        obtain⟨z,hz,rfl⟩:=Option.map_eq_some_iff.1 hd
        obtain⟨hi,rfl⟩:=List.getElem?_eq_some_iff.1 hz
        obtain⟨m1,m2⟩:=GM (kH lt zs)[i]
        refine⟨m1,fun j e he=>?_⟩
        obtain⟨u,n1,n2⟩:=m2 c j e he
        have hj:=(List.getElem?_eq_some_iff.1 he).1
        exact⟨u,by rw[qV hk _ i hi j (by omega)];exact n1,n2⟩
      obtain⟨lW,nI⟩:=nO g6 g3 g4 iT (k:=off) (by rw[List.length_map];omega)
      obtain⟨k1,k2⟩:=hR.write hg hρ g1 g2 g3 (cN xs ((kH lt zs).map mk) off) (rE (by rw[List.length_map];omega)) g4 g5 (base+off*k) _ lW iT.2.1 nI
      have fZ:c.O b:=(hR.own b).2 (.inl ⟨id,_,base,hg,rfl,hρ⟩)
      have hc:=C.row b (base+off*k) fU zs c.w (by omega) Vo (fun b' v hgv=>⟨fun e=>(hR.glob b' v hgv).2.1 (e ▸ fZ),(hR.glob b' v hgv).1,(hR.glob b' v hgv).2.2⟩) hcells
      rw[z1]at hc
      refine hc.mono fun e w' ⟨he,n,os,hw⟩=>⟨_,he,?_⟩
      have hheap:=P7 g1 ((kH lt zs).flatMap enc) lW
      generalize hW1:c.w.setRow b (spl cur (base+off*k) ((kH lt zs).flatMap enc))=W1 at *
      have eI:W1.heap.size=c.w.heap.size:=by rw[←hW1];simp[World.setRow]
      have GJ:w'.heap=W1.heap++os:=by
       rw[hw]
       rw[←hheap]
       simp only[Sort.grow,Sort.putRow,Sort.mapBlock,Sort.ahead]
      have hold:∀q,q<W1.heap.size→w'.heap[q]?=W1.heap[q]?:=fun q hq=>by rw[GJ,Array.getElem?_append_left hq]
      have hos:w'.os=W1.os∧w'.tape=W1.tape∧w'.output=W1.output:=by rw[hw,←hW1];exact⟨rfl,rfl,rfl⟩
      obtain⟨q1,q2⟩:=k1.grow (w1:=w') ⟨hos.1,hos.2.1,hos.2.2,by rw[GJ];simp[Ctx.next],hold⟩ (fun a ha=>by
       simp only[World.frozen?,Ctx.next]at ha ⊢
       rw[hold _ ha]) (by rw[hw,←hW1];exact Nat.le_add_right _ _)
      rw[Bf]at q1 q2
      exact⟨c.ρ,q1,k2.trans q2,unit _⟩
    ·cases hs
   ·cases hs
  ·cases hs
 ·cases hs
theorem xC{k:Nat}{α:Type}{lt:α→α→Bool}{un:DV→Option α}{mk:α→DV}{h h':aA}{d r:DV}(hs:wD k un mk lt h d=some (r,h')):dZ h h':=by
 unfold wD at hs
 split at hs
 ·cases hs;exact .refl _
 ·split at hs
  ·split at hs
   ·rename_i ety sz2 xs cap hg bU
    split at hs
    ·cases hs
     exact dZ.set hg bU.2.2.1 _
    ·cases hs
   ·cases hs
  ·cases hs
 ·cases hs
def V5(n:Int):List Value:=[.int .i64 n]
def jY(p:Int×Int):List Value:=[.int .i64 p.1,.int .i64 p.2]
theorem Qz{P:Program}{f:FuncId}(C:Ig P f 1 [] V5 ltZ):qA P f rU:=by
 refine⟨fun args h d h' c vals hs hR hv=>?_,fun h args v h' _ hs=>?_⟩
 ·unfold rU at hs
  split at hs
  ·rename_i x
   obtain⟨v,rfl⟩:∃ v,vals=[v]:=by
    have:=hv.1
    match vals with
    | [v]=>exact⟨v,rfl⟩
    | []=>simp at this
    | _::_::_=>simp at this
   have hx:VR c x v:=hv.2 0 (by simp) (by simp)
   refine .inr ⟨f,_,C.enter _ _,xB C (fun _=>rfl) (fun z u hu=>by simp[V5]at hu;subst hu;rfl) (fun d z hd c j e v he hv=>?_) (fun z=>⟨rfl,fun c j e he=>?_⟩) hR hx hs⟩
   ·unfold unI at hd
    split at hd
    ·cases hd
     rcases j with _|j
     ·simp[aF]at he;subst he
      rw[hv.int_inv];rfl
     ·simp[aF]at he
    ·cases hd
   ·rcases j with _|j
    ·simp[aF,mkI]at he;subst he
     exact⟨_,rfl,.int _ _⟩
    ·simp[aF,mkI]at he
  ·cases hs
 ·unfold rU at hs
  split at hs
  ·exact xC hs
  ·cases hs
theorem Mq{P:Program}{f:FuncId}{g:Nat}(C:Ig P f 2 [.func (.func g) #[] #[]] jY ltP):qA P f (wE g):=by
 refine⟨fun args h d h' c vals hs hR hv=>?_,fun h args v h' _ hs=>?_⟩
 ·unfold wE at hs
  split at hs
  ·rename_i x g'
   split at hs
   ·rename_i hgg
    have hgg:=Nat.eq_of_beq_eq_true hgg
    subst hgg
    obtain⟨v,u,rfl⟩:∃ v u,vals=[v,u]:=by
     have:=hv.1
     match vals with
     | [v,u]=>exact⟨v,u,rfl⟩
     | []=>simp at this
     | [_]=>simp at this
     | _::_::_::_=>simp at this
    have hx:VR c x v:=hv.2 0 (by simp) (by simp)
    have hf:VR c (.func g' []) u:=hv.2 1 (by simp) (by simp)
    obtain⟨vs,rfl,hl,_⟩:=hf.func_inv
    have:vs=[]:=List.length_eq_zero_iff.1 hl.symm
    subst this
    refine .inr ⟨f,_,C.enter _ _,xB C (fun _=>rfl) (fun z u hu=>by simp[jY]at hu;rcases hu with rfl|rfl<;>rfl) (fun d z hd c j e v he hv=>?_) (fun z=>⟨rfl,fun c j e he=>?_⟩) hR hx hs⟩
    ·unfold unP at hd
     split at hd
     ·cases hd
      rcases j with _|_|j
      ·simp[aF]at he;subst he
       rw[hv.int_inv];rfl
      ·simp[aF]at he;subst he
       rw[hv.int_inv];rfl
      ·simp[aF]at he
     ·cases hd
    ·rcases j with _|_|j
     ·simp[aF,mkP]at he;subst he
      exact⟨_,rfl,.int _ _⟩
     ·simp[aF,mkP]at he;subst he
      exact⟨_,rfl,.int _ _⟩
     ·simp[aF,mkP]at he
   ·cases hs
  ·cases hs
 ·unfold wE at hs
  split at hs
  ·split at hs
   ·exact xC hs
   ·cases hs
  ·cases hs
end Go.Dm
/-
Part 1 of "Dw", the machine's runs sW a bound: what a code does if it is given steps enough; the equations of that.
-/
namespace Go.Dm
abbrev vY:=aN→Env→aA→Res
abbrev fH:=Nat→List DV→aA→Option (DV×aA)
def nW(r1 r2:vY):Prop:=∀c env h e aT h',r1 c env h=.ok e aT h'→r2 c env h=.ok e aT h'
def qB(c1 c2:fH):Prop:=∀f args h r,c1 f args h=some r→c2 f args h=some r
theorem nW.refl(r:vY):nW r r:=fun _ _ _ _ _ _ h=>h
theorem nW.trans{a b c:vY}(h:nW a b)(g:nW b c):nW a c:=fun x y z e u v k=>g _ _ _ _ _ _ (h x y z e u v k)
theorem sC{c1 c2:fH}(hc:qB c1 c2){o:DOp}{env:Env}{h:aA}{r:DV×aA}(hs:bH c1 o env h=some r):bH c2 o env h=some r:=by
 cases o
 case call f args =>
  simp only[bH]at hs ⊢
  split at hs
  ·exact hc _ _ _ _ hs
  ·cases hs
 all_goals exact hs
theorem T6{c1 c2:fH}(hc:qB c1 c2){l:Nat}{o:DOp}{env:Env}{h:aA}{r:DV×aA}(hs:lX c1 l o env h=some r):lX c2 l o env h=some r:=by
 unfold lX at hs ⊢
 split at hs
 ·rename_i v h' h1
  rw[sC hc h1];exact hs
 ·cases hs
theorem Sc{c1 c2:fH}(hc:qB c1 c2){q:Nat}{L:cK}{o:DOp}{env:Env}{h:aA}{r:DV×aA×cK}(hs:lR c1 q L o env h=some r):lR c2 q L o env h=some r:=by
 unfold lR at hs ⊢
 split at hs
 ·split at hs
  ·rename_i h1
   rw[sC hc h1];exact hs
  ·cases hs
 ·cases hs
theorem Cs{c1 c2:fH}(hc:qB c1 c2){l q:Nat}{L:cK}{o:DOp}{env:Env}{h:aA}{r:DV×aA×cK}(hs:cT c1 l q L o env h=some r):cT c2 l q L o env h=some r:=by
 unfold cT at hs ⊢
 split at hs
 ·exact hs
 ·split at hs
  ·exact Sc hc hs
  ·split at hs
   ·rename_i v h' h1
    rw[T6 hc h1];exact hs
   ·cases hs
theorem rX{c1 c2:fH}(hc:qB c1 c2):∀(ops:List aJ) {env:Env} {h:aA} {r:Env×aA},eO c1 ops env h=some r→eO c2 ops env h=some r:=by
 intro ops
 induction ops with
 | nil=>intro env h r hs;exact hs
 | cons o ops ih =>
  intro env h r hs
  simp only[eO]at hs ⊢
  split at hs
  ·split at hs
   ·rename_i v h' h1
    rw[sC hc h1];exact ih hs
   ·cases hs
  ·exact ih hs
  ·cases hs
theorem tB{c1 c2:fH}(hc:qB c1 c2):∀(ops:List aJ) {env:Env} {hs:List aA} {L:cK} {r:Env×aA},dP c1 ops env hs L=some r→dP c2 ops env hs L=some r:=by
 intro ops
 induction ops with
 | nil=>intro env h L r hs;exact hs
 | cons o ops ih =>
  intro env hs L r he
  cases hs with
  | nil=>simp[dP]at he
  | cons h hs =>
   simp only[dP]at he ⊢
   split at he
   ·cases he
   ·split at he
    ·split at he
     ·rename_i yP
      rw[if_pos yP]
      split at he
      ·split at he
       ·exact ih he
       ·cases he
      ·cases he
     ·cases he
    ·split at he
     ·rename_i v h' h1
      rw[sC hc h1];exact ih he
     ·cases he
    ·split at he
     ·split at he
      ·rename_i v h' L' h1
       rw[Cs hc h1];exact ih he
      ·cases he
     ·cases he
   ·exact ih he
def fL(run:vY)(df:aV)(args:List DV)(h:aA):Option (DV×aA) :=
 match run df.body (args++List.replicate (df.ntmps-args.length) bN) h with
 | .ok (.exit _) _ _=>none
 | .ok _ env h'=>match aL h' env df.results with
  | some v=>some (v,h')
  | none=>none
 | .fail=>none
theorem pV{r1 r2:vY}(hr:nW r1 r2){df:aV}{args:List DV}{h:aA}{r:DV×aA}(hs:fL r1 df args h=some r):fL r2 df args h=some r:=by
 unfold fL at hs ⊢
 split at hs
 ·cases hs
 ·rename_i e env h' cY h1
  rw[hr _ _ _ _ _ _ h1]
  cases e with
  | exit id=>exact absurd rfl (cY id)
  | normal=>exact hs
  | ret=>exact hs
 ·cases hs
def eF(run:vY)(df:aV)(rest:List DV)(id sz off len ety:Nat)(xs:List DV)(h:aA)(e:Nat)(cap:Option Nat):Option (List DV) :=
 jK h ety sz (fL run df (.sl h.n sz off len::rest) {(h.set id .dead).push (.arr ety sz (xs++List.replicate e .unk) cap)with lim:=h.n})
theorem pF{r1 r2:vY}(hr:nW r1 r2){df:aV}{rest:List DV}{id sz off len ety:Nat}{xs:List DV}{h:aA}{e:Nat}{cap:Option Nat}{l:List DV}(hs:eF r1 df rest id sz off len ety xs h e cap=some l) :
  eF r2 df rest id sz off len ety xs h e cap=some l:=by
 unfold eF at hs ⊢
 cases hg:fL r1 df (.sl h.n sz off len::rest) {(h.set id .dead).push (.arr ety sz (xs++List.replicate e .unk) cap)with lim:=h.n} with
 | none=>rw[hg]at hs;simp[jK]at hs
 | some r=>rw[pV hr hg,←hg];exact hs
def gY(run:vY)(df:aV)(rest:List DV)(id sz off len ety:Nat)(xs:List DV)(h:aA):Option (DV×aA) :=
 match eF run df rest id sz off len ety xs h ((rest.map sX).foldl (·+·) 0) none with
 | some l=>if(List.range ((rest.map sX).foldl (·+·) 0)).all (fun e=>match eF run df rest id sz off len ety xs h e (some (xs.length+e))with|some l'=>rO l l'|none=>false)=true then
   some (.sl h.n sz 0 l.length,(h.set id .dead).push (.arr ety sz l none))else none
 | none=>none
theorem Qy{r1 r2:vY}(hr:nW r1 r2){df:aV}{rest:List DV}{id sz off len ety:Nat}{xs:List DV}{h:aA}{r:DV×aA}(hs:gY r1 df rest id sz off len ety xs h=some r) :
  gY r2 df rest id sz off len ety xs h=some r:=by
 unfold gY at hs ⊢
 split at hs
 ·rename_i l hl
  split at hs
  ·rename_i gO
   rw[pF hr hl]
   simp only
   rw[if_pos]
   ·exact hs
   ·refine List.all_eq_true.2 fun e he=>?_
    have:=List.all_eq_true.1 gO e he
    split at this
    ·rename_i l' Od
     rw[pF hr Od];exact this
    ·cases this
  ·cases hs
 ·cases hs
def cX(run:vY)(df:aV)(args:List DV)(h:aA):Option (DV×aA) :=
 match df.mode with
 | .full=>fL run df args h
 | .fresh=>match fL run df args {h with lim:=h.n} with
  | some (v,h')=>some (v,{h' with lim:=h.lim})
  | none=>none
 | .pure=>match args.mapM (resolve true h cG)with
  | some ds=>match fL run df ds {objs:=[],n:=0,lim:=0} with
   | some (v,h')=>match resolve false h' cG v with
    | some d=>if bE cG d then some (d,h)else none
    | none=>none
   | none=>none
  | none=>none
 | .split=>match args with
  | .sl id sz off len::rest=>match h.get id with
   | some (.arr ety dT xs none)=>if sz=dT∧h.lim≤id then gY run df rest id sz off len ety xs h else none
   | _=>fL run df args h
  | _=>fL run df args h
 | .frz=>match tJ gP h args with
  | some (as,h1)=>match as.mapM (resolve true h1 cG)with
   | some ds=>match fL run df ds {objs:=[],n:=0,lim:=0} with
    | some (v,h')=>match resolve false h' cG v with
     | some d=>if bE cG d then some (d,h1)else none
     | none=>none
    | none=>none
   | none=>none
  | none=>none
theorem vN(run:vY)(D:bV)(f:Nat)(args:List DV)(h:aA) :
  enter run D f args h=match D.hook f with
   | some hk=>hk h args
   | none=>match D.fn f with
    | none=>none
    | some df=>cX run df args h:=by
 unfold enter
 cases D.hook f with
 | some hk=>rfl
 | none =>
  cases D.fn f with
  | none=>rfl
  | some df =>
   simp only
   unfold cX
   cases df.mode<;>rfl
theorem Yi{r1 r2:vY}(hr:nW r1 r2){df:aV}{args:List DV}{h:aA}{r:DV×aA}(hs:cX r1 df args h=some r):cX r2 df args h=some r:=by
 unfold cX at hs ⊢
 split at hs
 ·exact pV hr hs
 ·split at hs
  ·rename_i v h' h1
   rw[pV hr h1];exact hs
  ·cases hs
 ·split at hs
  ·split at hs
   ·rename_i h1
    rw[pV hr h1];exact hs
   ·cases hs
  ·cases hs
 ·split at hs
  ·split at hs
   ·split at hs
    ·rename_i hc
     rw[if_pos hc]
     exact Qy hr hs
    ·cases hs
   ·rename_i cY
    exact pV hr hs
  ·exact pV hr hs
 ·split at hs
  ·split at hs
   ·split at hs
    ·rename_i h1
     rw[pV hr h1];exact hs
    ·cases hs
   ·cases hs
  ·cases hs
theorem eZ{r1 r2:vY}(hr:nW r1 r2)(D:bV):qB (enter r1 D) (enter r2 D):=by
 intro f args h r hs
 rw[vN]at hs ⊢
 split at hs
 ·exact hs
 ·split at hs
  ·cases hs
  ·exact Yi hr hs
theorem Bc{c1 c2:fH}{r1 r2:vY}(hc:qB c1 c2)(hr:nW r1 r2){it nx ok en X Y p:Nat}{ops:List aJ}{b:aN}:∀(l:List (DV×DV)) {env:Env} {h:aA} {e:Ex} {aT:Env} {h':aA},
  rounds c1 r1 it nx ok en X Y p ops b l env h=.ok e aT h'→rounds c2 r2 it nx ok en X Y p ops b l env h=.ok e aT h':=by
 intro l
 induction l with
 | nil=>intro env h e aT h' he;exact he
 | cons x r ih =>
  intro env h e aT h' he
  obtain⟨k,v⟩:=x
  simp only[rounds]at he ⊢
  split at he
  ·split at he
   ·rename_i bU
    rw[if_pos bU]
    split at he
    ·rename_i h2
     rw[rX hc _ h2]
     simp only
     split at he
     ·rename_i h3;rw[hr _ _ _ _ _ _ h3];exact ih he
     ·rename_i h3
      rw[hr _ _ _ _ _ _ h3]
      simp only
      split at he
      ·rename_i hi;rw[if_pos hi];exact ih he
      ·rename_i hi;rw[if_neg hi];exact he
     ·rename_i h3 h4
      rw[hr _ _ _ _ _ _ he]
      cases e with
      | normal=>exact absurd he (h3 _ _)
      | exit i=>exact absurd he (h4 _ _ _)
      | ret=>rfl
    ·cases he
   ·cases he
  ·cases he
theorem pE{c1 c2:fH}{r1 r2:vY}(hc:qB c1 c2)(hr:nW r1 r2){it nx ok en X Y m:Nat}{kl:List Nat}{ops:List aJ}{b:aN}{es p:List (DV×DV)}{env:Env}{h:aA}{e:Ex}{aT:Env}{h':aA}
  (he:iF c1 r1 it nx ok en X Y kl ops b m es env h p=.ok e aT h'):iF c2 r2 it nx ok en X Y kl ops b m es env h p=.ok e aT h':=by
 unfold iF at he ⊢
 cases Vl:rounds c1 r1 it nx ok en X Y h.n ops b p (env.set it (.ptr h.n 0 0 0)) (iR h m)with
 | fail=>rw[Vl]at he;cases he
 | ok e1 env1 h1=>rw[Bc hc hr _ Vl,←Vl];exact he
theorem Eb{e:Ex}{env:Env}{h:aA}{r:Res}(hs:Ou e env h r=true):∃ e1 env1 h1,r=.ok e1 env1 h1:=by
 cases r with
 | fail=>cases hs
 | ok e1 env1 h1=>exact⟨_,_,_,rfl⟩
theorem Pv{c1 c2:fH}{r1 r2:vY}(hc:qB c1 c2)(hr:nW r1 r2){it nx ok en X Y:Nat}{kl:List Nat}{ops:List aJ}{b:aN}{env:Env}{h:aA}{x:Option (Nat×List (DV×DV))}{e:Ex}{aT:Env}{h':aA}
  (he:rT c1 r1 it nx ok en X Y kl ops b env h x=.ok e aT h'):rT c2 r2 it nx ok en X Y kl ops b env h x=.ok e aT h':=by
 cases x with
 | none=>cases he
 | some x =>
  obtain⟨m,es⟩:=x
  simp only[rT]at he ⊢
  split at he
  ·rename_i h3
   rw[pE hc hr h3]
   simp only
   split at he
   ·rename_i gO
    rw[if_pos]
    ·exact he
    ·refine List.all_eq_true.2 fun p hp=>?_
     have:=List.all_eq_true.1 gO p hp
     obtain⟨e1,env1,h1,h4⟩:=Eb this
     rw[pE hc hr h4,←h4];exact this
   ·cases he
  ·cases he
theorem Ot(D:bV):∀n,nW (cZ D n) (cZ D (n+1)):=by
 intro n
 induction n with
 | zero=>intro c env h e aT h' he;cases he
 | succ n ih =>
  intro c env h e aT h' he
  cases c<;>unfold cZ at he<;>unfold cZ<;>simp only at he ⊢
  case skip=>exact he
  case exit=>exact he
  case ret=>exact he
  case seq a b =>
   split at he
   ·rename_i h1
    rw[ih _ _ _ _ _ _ h1];exact ih _ _ _ _ _ _ he
   ·rename_i cY
    rw[ih _ _ _ _ _ _ he]
    cases e with
    | normal=>exact absurd he (cY _ _)
    | _=>rfl
  case cond c a b =>
   split at he
   ·exact ih _ _ _ _ _ _ he
   ·exact ih _ _ _ _ _ _ he
   ·cases he
  case block id b =>
   split at he
   ·rename_i h1
    rw[ih _ _ _ _ _ _ h1];exact he
   ·rename_i cY
    rw[ih _ _ _ _ _ _ he]
    cases e with
    | exit i=>exact absurd he (cY _ _ _)
    | _=>rfl
  case loop b =>
   split at he
   ·rename_i h1
    rw[ih _ _ _ _ _ _ h1];exact ih _ _ _ _ _ _ he
   ·rename_i cY
    rw[ih _ _ _ _ _ _ he]
    cases e with
    | normal=>exact absurd he (cY _ _)
    | _=>rfl
  case region ops =>
   split at he
   ·rename_i h1
    rw[rX (eZ ih D) _ h1];exact he
   ·cases he
  case draw ops =>
   split at he
   ·rename_i h1
    rw[tB (eZ ih D) _ h1];exact he
   ·cases he
  case walk x it nx ok en X Y kl ops b=>exact Pv (eZ ih D) ih he
theorem dA(D:bV){n m:Nat}(h:n≤m):nW (cZ D n) (cZ D m):=by
 induction h with
 | refl=>exact .refl _
 | step _ ih=>exact ih.trans (Ot D _)
open Classical in
noncomputable def ev(D:bV):vY:=fun c env h =>
 if hx:∃ x:Nat×Ex×Env×aA,cZ D x.1 c env h=.ok x.2.1 x.2.2.1 x.2.2.2 then .ok hx.choose.2.1 hx.choose.2.2.1 hx.choose.2.2.2 else .fail
theorem dV{D:bV}{c:aN}{env:Env}{h:aA}{e:Ex}{aT:Env}{h':aA}:ev D c env h=.ok e aT h'↔∃ n,cZ D n c env h=.ok e aT h':=by
 unfold ev
 constructor
 ·intro hs
  split at hs
  ·rename_i hx
   have:=hx.choose_spec
   exact⟨_,this.trans hs⟩
  ·cases hs
 ·rintro⟨n,hn⟩
  have hx:∃ x:Nat×Ex×Env×aA,cZ D x.1 c env h=.ok x.2.1 x.2.2.1 x.2.2.2:=⟨⟨n,e,aT,h'⟩,hn⟩
  rw[dif_pos hx]
  have h1:=dA D (Nat.le_max_left n hx.choose.1) _ _ _ _ _ _ hn
  have h2:=dA D (Nat.le_max_right n hx.choose.1) _ _ _ _ _ _ hx.choose_spec
  rw[h1]at h2
  exact h2.symm
theorem yB(D:bV)(n:Nat):nW (cZ D n) (ev D):=fun _ _ _ _ _ _ h=>dV.2 ⟨n,h⟩
theorem tC{a b:Res}(h:∀e env h,a=.ok e env h↔b=.ok e env h):a=b:=by
 cases a with
 | fail=>cases b with
  | fail=>rfl
  | ok e env h0=>exact((h e env h0).2 rfl)
 | ok e env h0=>exact((h e env h0).1 rfl).symm
noncomputable def fc(D:bV):fH:=enter (ev D) D
theorem jR{D:bV}{df:aV}{args:List DV}{h:aA}{r:DV×aA}(hs:fL (ev D) df args h=some r):∃ n,fL (cZ D n) df args h=some r:=by
 cases hv:ev D df.body (args++List.replicate (df.ntmps-args.length) bN) h with
 | fail=>unfold fL at hs;rw[hv]at hs;cases hs
 | ok e env h' =>
  obtain⟨n,hn⟩:=dV.1 hv
  refine⟨n,?_⟩
  unfold fL at hs ⊢
  rw[hv]at hs
  rw[hn]
  exact hs
theorem zC{D:bV}{df:aV}{rest:List DV}{id sz off len ety:Nat}{xs:List DV}{h:aA}{e:Nat}{cap:Option Nat}{l:List DV}(hs:eF (ev D) df rest id sz off len ety xs h e cap=some l) :
  ∃ n,eF (cZ D n) df rest id sz off len ety xs h e cap=some l:=by
 unfold eF at hs
 cases hg:fL (ev D) df (.sl h.n sz off len::rest) {(h.set id .dead).push (.arr ety sz (xs++List.replicate e .unk) cap)with lim:=h.n} with
 | none=>rw[hg]at hs;simp[jK]at hs
 | some r =>
  obtain⟨n,hn⟩:=jR hg
  refine⟨n,?_⟩
  unfold eF
  rw[hn,←hg];exact hs
theorem Er{D:bV}{df:aV}{rest:List DV}{id sz off len ety:Nat}{xs:List DV}{h:aA}{r:DV×aA}(hs:gY (ev D) df rest id sz off len ety xs h=some r) :
  ∃ n,gY (cZ D n) df rest id sz off len ety xs h=some r:=by
 unfold gY at hs
 split at hs
 ·rename_i l hl
  split at hs
  ·rename_i gO
   obtain⟨n0,hn0⟩:=zC hl
   have many:∀es:List Nat,(es.all fun e=>match eF (ev D) df rest id sz off len ety xs h e (some (xs.length+e))with|some l'=>rO l l'|none=>false)=true →
     ∃ n,(es.all fun e=>match eF (cZ D n) df rest id sz off len ety xs h e (some (xs.length+e))with|some l'=>rO l l'|none=>false)=true:=by
    intro es
    induction es with
    | nil=>intro _;exact⟨0,rfl⟩
    | cons e es ih =>
     intro ha
     simp only[List.all_cons,Bool.and_eq_true]at ha
     obtain⟨n1,h1⟩:=ih ha.2
     have h2:=ha.1
     split at h2
     ·rename_i l' Od
      obtain⟨n2,h3⟩:=zC Od
      refine⟨max n1 n2,?_⟩
      simp only[List.all_cons,Bool.and_eq_true]
      refine⟨by rw[pF (dA D (Nat.le_max_right n1 n2)) h3];exact h2,List.all_eq_true.2 fun e he=>?_⟩
      have:=List.all_eq_true.1 h1 e he
      split at this
      ·rename_i l2 OX
       rw[pF (dA D (Nat.le_max_left n1 n2)) OX];exact this
      ·cases this
     ·cases h2
   obtain⟨n1,OW⟩:=many _ gO
   refine⟨max n0 n1,?_⟩
   unfold gY
   rw[pF (dA D (Nat.le_max_left n0 n1)) hn0]
   simp only
   rw[if_pos]
   ·exact hs
   ·refine List.all_eq_true.2 fun e he=>?_
    have:=List.all_eq_true.1 OW e he
    split at this
    ·rename_i l2 OX
     rw[pF (dA D (Nat.le_max_right n0 n1)) OX];exact this
    ·cases this
  ·cases hs
 ·cases hs
theorem Jj{D:bV}{df:aV}{args:List DV}{h:aA}{r:DV×aA}(hs:cX (ev D) df args h=some r):∃ n,cX (cZ D n) df args h=some r:=by
 unfold cX at hs
 split at hs
 ·rename_i hm
  obtain⟨n,hn⟩:=jR hs
  exact⟨n,by unfold cX;rw[hm];exact hn⟩
 ·rename_i hm
  split at hs
  ·rename_i v h' h1
   obtain⟨n,hn⟩:=jR h1
   exact⟨n,by unfold cX;rw[hm];simp only;rw[hn];exact hs⟩
  ·cases hs
 ·rename_i hm
  split at hs
  ·rename_i ds Cn
   split at hs
   ·rename_i v h' h1
    obtain⟨n,hn⟩:=jR h1
    exact⟨n,by unfold cX;rw[hm];simp only;rw[Cn];simp only;rw[hn];exact hs⟩
   ·cases hs
  ·cases hs
 ·rename_i hm
  split at hs
  ·rename_i id sz off len rest
   split at hs
   ·rename_i ety dT xs hg
    split at hs
    ·rename_i hc
     obtain⟨n,hn⟩:=Er hs
     exact⟨n,by unfold cX;rw[hm];simp only;rw[hg];simp only;rw[if_pos hc];exact hn⟩
    ·cases hs
   ·rename_i cY
    obtain⟨n,hn⟩:=jR hs
    refine⟨n,?_⟩
    unfold cX
    rw[hm]
    simp only
    exact hn
  ·rename_i cY
   obtain⟨n,hn⟩:=jR hs
   refine⟨n,?_⟩
   unfold cX
   rw[hm]
   simp only
   exact hn
 ·rename_i hm
  split at hs
  ·rename_i as h1 ea
   split at hs
   ·rename_i ds Cn
    split at hs
    ·rename_i v h' h2
     obtain⟨n,hn⟩:=jR h2
     exact⟨n,by unfold cX;rw[hm];simp only;rw[ea];simp only;rw[Cn];simp only;rw[hn];exact hs⟩
    ·cases hs
   ·cases hs
  ·cases hs
theorem Ea{D:bV}{f:Nat}{args:List DV}{h:aA}{r:DV×aA}:fc D f args h=some r↔∃ n,Uv D n f args h=some r:=by
 constructor
 ·intro hs
  unfold fc at hs
  rw[vN]at hs
  split at hs
  ·rename_i hk hh
   exact⟨0,by unfold Uv;rw[vN,hh];exact hs⟩
  ·rename_i hh
   split at hs
   ·cases hs
   ·rename_i df hdf
    obtain⟨n,hn⟩:=Jj hs
    exact⟨n,by unfold Uv;rw[vN,hh,hdf];exact hn⟩
 ·rintro⟨n,hn⟩
  exact eZ (yB D n) D f args h r hn
theorem yI(D:bV)(n:Nat):qB (enter (cZ D n) D) (fc D):=eZ (yB D n) D
theorem qP{D:bV}{o:DOp}{env:Env}{h:aA}{r:DV×aA}(hs:bH (fc D) o env h=some r):∃ n,bH (enter (cZ D n) D) o env h=some r:=by
 cases o
 case call f args =>
  simp only[bH]at hs ⊢
  split at hs
  ·exact Ea.1 hs
  ·cases hs
 all_goals exact⟨0,hs⟩
theorem Oi{D:bV}{l:Nat}{o:DOp}{env:Env}{h:aA}{r:DV×aA}(hs:lX (fc D) l o env h=some r):∃ n,lX (enter (cZ D n) D) l o env h=some r:=by
 unfold lX at hs
 split at hs
 ·rename_i v h' h1
  obtain⟨n,hn⟩:=qP h1
  exact⟨n,by unfold lX;rw[hn];exact hs⟩
 ·cases hs
theorem Hq{D:bV}{l q:Nat}{L:cK}{o:DOp}{env:Env}{h:aA}{r:DV×aA×cK}(hs:cT (fc D) l q L o env h=some r):∃ n,cT (enter (cZ D n) D) l q L o env h=some r:=by
 unfold cT at hs
 split at hs
 ·rename_i id hp
  exact⟨0,by unfold cT;rw[hp];exact hs⟩
 ·rename_i hp
  split at hs
  ·rename_i KH
   unfold lR at hs
   split at hs
   ·split at hs
    ·rename_i h1
     obtain⟨n,hn⟩:=qP h1
     exact⟨n,by unfold cT;rw[hp];simp only;rw[KH];simp only[lR];rw[hn];exact hs⟩
    ·cases hs
   ·cases hs
  ·rename_i KH
   split at hs
   ·rename_i v h' h1
    obtain⟨n,hn⟩:=Oi h1
    exact⟨n,by unfold cT;rw[hp];simp only;rw[KH];simp only;rw[hn];exact hs⟩
   ·cases hs
theorem zD{D:bV}:∀(ops:List aJ) {env:Env} {h:aA} {r:Env×aA},eO (fc D) ops env h=some r→∃ n,eO (enter (cZ D n) D) ops env h=some r:=by
 intro ops
 induction ops with
 | nil=>intro env h r hs;exact⟨0,hs⟩
 | cons o ops ih =>
  intro env h r hs
  simp only[eO]at hs
  split at hs
  ·rename_i hw
   split at hs
   ·rename_i v h' h1
    obtain⟨n1,k1⟩:=qP h1
    obtain⟨n2,k2⟩:=ih hs
    refine⟨max n1 n2,?_⟩
    simp only[eO,hw]
    rw[sC (eZ (dA D (Nat.le_max_left n1 n2)) D) k1]
    exact rX (eZ (dA D (Nat.le_max_right n1 n2)) D) _ k2
   ·cases hs
  ·rename_i hw
   obtain⟨n2,k2⟩:=ih hs
   exact⟨n2,by simp only[eO,hw];exact k2⟩
  ·cases hs
theorem Iz{D:bV}:∀(ops:List aJ) {env:Env} {hs:List aA} {L:cK} {r:Env×aA},dP (fc D) ops env hs L=some r→∃ n,dP (enter (cZ D n) D) ops env hs L=some r:=by
 intro ops
 induction ops with
 | nil=>intro env h L r hs;exact⟨0,hs⟩
 | cons o ops ih =>
  intro env hs L r he
  cases hs with
  | nil=>simp[dP]at he
  | cons h hs =>
   simp only[dP]at he
   split at he
   ·cases he
   ·rename_i hw
    split at he
    ·rename_i hk
     split at he
     ·rename_i yP
      split at he
      ·rename_i h0 hsn
       split at he
       ·rename_i v h1 dD
        obtain⟨n,hn⟩:=ih he
        exact⟨n,by simp only[dP,hw,hk,hsn,dD,if_pos yP];exact hn⟩
       ·cases he
      ·cases he
     ·cases he
    ·rename_i hk
     split at he
     ·rename_i v h' h1
      obtain⟨n1,k1⟩:=qP h1
      obtain⟨n2,k2⟩:=ih he
      refine⟨max n1 n2,?_⟩
      simp only[dP,hw,hk]
      rw[sC (eZ (dA D (Nat.le_max_left n1 n2)) D) k1]
      exact tB (eZ (dA D (Nat.le_max_right n1 n2)) D) _ k2
     ·cases he
    ·rename_i hk
     split at he
     ·rename_i h0 hsn
      split at he
      ·rename_i v h' L' h1
       obtain⟨n1,k1⟩:=Hq h1
       obtain⟨n2,k2⟩:=ih he
       refine⟨max n1 n2,?_⟩
       simp only[dP,hw,hk,hsn]
       rw[Cs (eZ (dA D (Nat.le_max_left n1 n2)) D) k1]
       exact tB (eZ (dA D (Nat.le_max_right n1 n2)) D) _ k2
      ·cases he
     ·cases he
   ·rename_i hw
    obtain⟨n2,k2⟩:=ih he
    exact⟨n2,by simp only[dP,hw];exact k2⟩
theorem My{D:bV}{it nx ok en X Y p:Nat}{ops:List aJ}{b:aN}:∀(l:List (DV×DV)) {env:Env} {h:aA} {e:Ex} {aT:Env} {h':aA},
  rounds (fc D) (ev D) it nx ok en X Y p ops b l env h=.ok e aT h'→∃ n,rounds (enter (cZ D n) D) (cZ D n) it nx ok en X Y p ops b l env h=.ok e aT h':=by
 intro l
 induction l with
 | nil=>intro env h e aT h' he;exact⟨0,he⟩
 | cons x r ih =>
  intro env h e aT h' he
  obtain⟨k,v⟩:=x
  simp only[rounds]at he
  split at he
  ·rename_i hq
   split at he
   ·rename_i bU
    split at he
    ·rename_i h2
     obtain⟨n1,k1⟩:=zD _ h2
     have up:∀n,n1≤n→eO (enter (cZ D n) D) ops (((env.set nx (.tup [.bool true,k,v])).set ok (.bool true)).set en (.tup [k,v])) h=_:=fun n hn=>rX (eZ (dA D hn) D) _ k1
     split at he
     ·rename_i h3
      obtain⟨n2,k2⟩:=dV.1 h3
      obtain⟨n3,k3⟩:=ih he
      refine⟨max n1 (max n2 n3),?_⟩
      simp only[rounds,hq,if_pos bU]
      rw[up _ (by omega)]
      simp only
      rw[dA D (show n2≤max n1 (max n2 n3) by omega) _ _ _ _ _ _ k2]
      exact Bc (eZ (dA D (by omega)) D) (dA D (show n3≤max n1 (max n2 n3) by omega)) _ k3
     ·rename_i i env2 h2' h3
      obtain⟨n2,k2⟩:=dV.1 h3
      split at he
      ·rename_i hi
       obtain⟨n3,k3⟩:=ih he
       refine⟨max n1 (max n2 n3),?_⟩
       simp only[rounds,hq,if_pos bU]
       rw[up _ (by omega)]
       simp only
       rw[dA D (show n2≤max n1 (max n2 n3) by omega) _ _ _ _ _ _ k2]
       simp only[if_pos hi]
       exact Bc (eZ (dA D (by omega)) D) (dA D (show n3≤max n1 (max n2 n3) by omega)) _ k3
      ·rename_i hi
       refine⟨max n1 n2,?_⟩
       simp only[rounds,hq,if_pos bU]
       rw[up _ (by omega)]
       simp only
       rw[dA D (show n2≤max n1 n2 by omega) _ _ _ _ _ _ k2]
       simp only[if_neg hi]
       exact he
     ·rename_i h3 h4
      obtain⟨n2,k2⟩:=dV.1 he
      refine⟨max n1 n2,?_⟩
      simp only[rounds,hq,if_pos bU]
      rw[up _ (by omega)]
      simp only
      rw[dA D (show n2≤max n1 n2 by omega) _ _ _ _ _ _ k2]
      cases e with
      | normal=>exact absurd he (h3 _ _)
      | exit i=>exact absurd he (h4 _ _ _)
      | ret=>rfl
    ·cases he
   ·cases he
  ·cases he
theorem yQ{D:bV}{it nx ok en X Y m:Nat}{kl:List Nat}{ops:List aJ}{b:aN}{es p:List (DV×DV)}{env:Env}{h:aA}{e:Ex}{aT:Env}{h':aA}
  (he:iF (fc D) (ev D) it nx ok en X Y kl ops b m es env h p=.ok e aT h'):∃ n,iF (enter (cZ D n) D) (cZ D n) it nx ok en X Y kl ops b m es env h p=.ok e aT h':=by
 unfold iF at he
 cases Vl:rounds (fc D) (ev D) it nx ok en X Y h.n ops b p (env.set it (.ptr h.n 0 0 0)) (iR h m)with
 | fail=>rw[Vl]at he;cases he
 | ok e1 env1 h1 =>
  obtain⟨n,hn⟩:=My _ Vl
  exact⟨n,by unfold iF;rw[hn,←Vl];exact he⟩
theorem Pu{D:bV}{it nx ok en X Y:Nat}{kl:List Nat}{ops:List aJ}{b:aN}{env:Env}{h:aA}{x:Option (Nat×List (DV×DV))}{e:Ex}{aT:Env}{h':aA}
  (he:rT (fc D) (ev D) it nx ok en X Y kl ops b env h x=.ok e aT h'):∃ n,rT (enter (cZ D n) D) (cZ D n) it nx ok en X Y kl ops b env h x=.ok e aT h':=by
 cases x with
 | none=>cases he
 | some x =>
  obtain⟨m,es⟩:=x
  simp only[rT]at he
  split at he
  ·rename_i h3
   split at he
   ·rename_i gO
    obtain⟨n0,k0⟩:=yQ h3
    have many:∀ps:List (List (DV×DV)),(ps.all fun p=>Ou e aT h' (iF (fc D) (ev D) it nx ok en X Y kl ops b m es env h p))=true →
      ∃ n,(ps.all fun p=>Ou e aT h' (iF (enter (cZ D n) D) (cZ D n) it nx ok en X Y kl ops b m es env h p))=true:=by
     intro ps
     induction ps with
     | nil=>intro _;exact⟨0,rfl⟩
     | cons p ps ih =>
      intro ha
      simp only[List.all_cons,Bool.and_eq_true]at ha
      obtain⟨n1,h1⟩:=ih ha.2
      obtain⟨e1,env1,Zf,h4⟩:=Eb ha.1
      obtain⟨n2,k2⟩:=yQ h4
      refine⟨max n1 n2,?_⟩
      simp only[List.all_cons,Bool.and_eq_true]
      refine⟨by rw[pE (eZ (dA D (Nat.le_max_right n1 n2)) D) (dA D (Nat.le_max_right n1 n2)) k2,←h4];exact ha.1,List.all_eq_true.2 fun p hp=>?_⟩
      have:=List.all_eq_true.1 h1 p hp
      obtain⟨e5,env5,h5,h6⟩:=Eb this
      rw[pE (eZ (dA D (Nat.le_max_left n1 n2)) D) (dA D (Nat.le_max_left n1 n2)) h6,←h6];exact this
    obtain⟨n1,k1⟩:=many _ (by cases he;exact gO)
    refine⟨max n0 n1,?_⟩
    simp only[rT]
    rw[pE (eZ (dA D (Nat.le_max_left n0 n1)) D) (dA D (Nat.le_max_left n0 n1)) k0]
    cases he
    simp only
    rw[if_pos]
    refine List.all_eq_true.2 fun p hp=>?_
    have:=List.all_eq_true.1 k1 p hp
    obtain⟨e5,env5,h5,h6⟩:=Eb this
    rw[pE (eZ (dA D (Nat.le_max_right n0 n1)) D) (dA D (Nat.le_max_right n0 n1)) h6,←h6];exact this
   ·cases he
  ·cases he
section
variable (D:bV) (env:Env) (h:aA)
theorem LC:ev D .skip env h=.ok .normal env h:=dV.2 ⟨1,rfl⟩
theorem LE(id:Nat):ev D (.exit id) env h=.ok (.exit id) env h:=dV.2 ⟨1,rfl⟩
theorem PI:ev D .ret env h=.ok .ret env h:=dV.2 ⟨1,rfl⟩
theorem PH(a b:aN):ev D (.seq a b) env h=match ev D a env h with
  | .ok .normal env h=>ev D b env h
  | r=>r:=by
 apply tC
 intro e aT h'
 constructor
 ·intro hs
  obtain⟨n,hn⟩:=dV.1 hs
  cases n with
  | zero=>cases hn
  | succ n =>
   simp only[cZ]at hn
   split at hn
   ·rename_i h1
    rw[dV.2 ⟨n,h1⟩]
    exact dV.2 ⟨n,hn⟩
   ·rename_i cY
    rw[dV.2 ⟨n,hn⟩]
    cases e with
    | normal=>exact absurd hn (cY _ _)
    | _=>rfl
 ·intro hs
  split at hs
  ·rename_i env1 h1 hv
   obtain⟨n1,k1⟩:=dV.1 hv
   obtain⟨n2,k2⟩:=dV.1 hs
   refine dV.2 ⟨max n1 n2+1,?_⟩
   simp only[cZ]
   rw[dA D (Nat.le_max_left n1 n2) _ _ _ _ _ _ k1]
   exact dA D (Nat.le_max_right n1 n2) _ _ _ _ _ _ k2
  ·rename_i cY
   obtain⟨n1,k1⟩:=dV.1 hs
   refine dV.2 ⟨n1+1,?_⟩
   simp only[cZ]
   rw[k1]
   cases e with
   | normal=>exact absurd hs (cY _ _)
   | _=>rfl
theorem LG(c:Opd)(a b:aN):ev D (.cond c a b) env h=match c.eval env with
  | .bool true=>ev D a env h
  | .bool false=>ev D b env h
  | _=>.fail:=by
 apply tC
 intro e aT h'
 constructor
 ·intro hs
  obtain⟨n,hn⟩:=dV.1 hs
  cases n with
  | zero=>cases hn
  | succ n =>
   simp only[cZ]at hn
   split at hn
   ·rename_i hc;rw[hc];exact dV.2 ⟨n,hn⟩
   ·rename_i hc;rw[hc];exact dV.2 ⟨n,hn⟩
   ·cases hn
 ·intro hs
  split at hs
  ·rename_i hc
   obtain⟨n1,k1⟩:=dV.1 hs
   exact dV.2 ⟨n1+1,by simp only[cZ,hc];exact k1⟩
  ·rename_i hc
   obtain⟨n1,k1⟩:=dV.1 hs
   exact dV.2 ⟨n1+1,by simp only[cZ,hc];exact k1⟩
  ·cases hs
theorem FC(id:Nat)(b:aN):ev D (.block id b) env h=match ev D b env h with
  | .ok (.exit id') env h=>if id'=id then .ok .normal env h else .ok (.exit id') env h
  | r=>r:=by
 apply tC
 intro e aT h'
 constructor
 ·intro hs
  obtain⟨n,hn⟩:=dV.1 hs
  cases n with
  | zero=>cases hn
  | succ n =>
   simp only[cZ]at hn
   split at hn
   ·rename_i h1
    rw[dV.2 ⟨n,h1⟩]
    exact hn
   ·rename_i cY
    rw[dV.2 ⟨n,hn⟩]
    cases e with
    | exit i=>exact absurd hn (cY _ _ _)
    | _=>rfl
 ·intro hs
  split at hs
  ·rename_i h1
   obtain⟨n1,k1⟩:=dV.1 h1
   exact dV.2 ⟨n1+1,by simp only[cZ];rw[k1];exact hs⟩
  ·rename_i cY
   obtain⟨n1,k1⟩:=dV.1 hs
   refine dV.2 ⟨n1+1,?_⟩
   simp only[cZ]
   rw[k1]
   cases e with
   | exit i=>exact absurd hs (cY _ _ _)
   | _=>rfl
theorem LD(b:aN):ev D (.loop b) env h=match ev D b env h with
  | .ok .normal env h=>ev D (.loop b) env h
  | r=>r:=by
 apply tC
 intro e aT h'
 constructor
 ·intro hs
  obtain⟨n,hn⟩:=dV.1 hs
  cases n with
  | zero=>cases hn
  | succ n =>
   simp only[cZ]at hn
   split at hn
   ·rename_i h1
    rw[dV.2 ⟨n,h1⟩]
    exact dV.2 ⟨n,hn⟩
   ·rename_i cY
    rw[dV.2 ⟨n,hn⟩]
    cases e with
    | normal=>exact absurd hn (cY _ _)
    | _=>rfl
 ·intro hs
  split at hs
  ·rename_i env1 h1 hv
   obtain⟨n1,k1⟩:=dV.1 hv
   obtain⟨n2,k2⟩:=dV.1 hs
   refine dV.2 ⟨max n1 n2+1,?_⟩
   simp only[cZ]
   rw[dA D (Nat.le_max_left n1 n2) _ _ _ _ _ _ k1]
   exact dA D (Nat.le_max_right n1 n2) _ _ _ _ _ _ k2
  ·rename_i cY
   obtain⟨n1,k1⟩:=dV.1 hs
   refine dV.2 ⟨n1+1,?_⟩
   simp only[cZ]
   rw[k1]
   cases e with
   | normal=>exact absurd hs (cY _ _)
   | _=>rfl
theorem V1(ops:List aJ):ev D (.region ops) env h=match eO (fc D) ops env h with
  | some (env,h)=>.ok .normal env h
  | none=>.fail:=by
 apply tC
 intro e aT h'
 constructor
 ·intro hs
  obtain⟨n,hn⟩:=dV.1 hs
  cases n with
  | zero=>cases hn
  | succ n =>
   simp only[cZ]at hn
   split at hn
   ·rename_i h1
    rw[rX (yI D n) _ h1];exact hn
   ·cases hn
 ·intro hs
  split at hs
  ·rename_i h1
   obtain⟨n1,k1⟩:=zD _ h1
   exact dV.2 ⟨n1+1,by simp only[cZ];rw[k1];exact hs⟩
  ·cases hs
theorem LF(ops:List aJ):ev D (.draw ops) env h=match dP (fc D) ops env [h] .start with
  | some (env,h)=>.ok .normal env h
  | none=>.fail:=by
 apply tC
 intro e aT h'
 constructor
 ·intro hs
  obtain⟨n,hn⟩:=dV.1 hs
  cases n with
  | zero=>cases hn
  | succ n =>
   simp only[cZ]at hn
   split at hn
   ·rename_i h1
    rw[tB (yI D n) _ h1];exact hn
   ·cases hn
 ·intro hs
  split at hs
  ·rename_i h1
   obtain⟨n1,k1⟩:=Iz _ h1
   exact dV.2 ⟨n1+1,by simp only[cZ];rw[k1];exact hs⟩
  ·cases hs
theorem LB(x:Opd)(it nx ok en X Y:Nat)(kl:List Nat)(ops:List aJ)(b:aN):ev D (.walk x it nx ok en X Y kl ops b) env h=rT (fc D) (ev D) it nx ok en X Y kl ops b env h (lZ h (x.eval env)):=by
 apply tC
 intro e aT h'
 constructor
 ·intro hs
  obtain⟨n,hn⟩:=dV.1 hs
  cases n with
  | zero=>cases hn
  | succ n =>
   simp only[cZ]at hn
   exact Pv (yI D n) (yB D n) hn
 ·intro hs
  obtain⟨n,hn⟩:=Pu hs
  exact dV.2 ⟨n+1,by simp only[cZ];exact hn⟩
theorem Tu(f:Nat)(args:List DV):fc D f args h=match D.hook f with
  | some hk=>hk h args
  | none=>match D.fn f with
   | none=>none
   | some df=>cX (ev D) df args h:=vN _ _ _ _ _
end
end Go.Dm
/-
Part 2 of "Dw": the same with what is still to be done laid in a row, and the slots by number: each step is one equation.
-/
namespace Go.Dm
abbrev dK:=Nat→DV
def tab(N:Nat)(f:dK):Env:=(List.range N).map f
def upd(f:dK)(d:Nat)(v:DV):dK:=fun i=>if i=d then v else f i
def sA(f:dK)(dst:Option Nat)(v:DV):dK:=match dst with|some d=>upd f d v|none=>f
def rd(N:Nat)(f:dK)(i:Nat):DV:=if i<N then f i else .unk
def GC(args:List DV):dK:=fun i=>args.getD i bN
theorem qI(N:Nat)(f:dK)(i:Nat):(tab N f)[i]?=if i<N then some (f i)else none:=by
 by_cases h:i<N
 ·simp[tab,h]
 ·simp only[tab,List.getElem?_map,if_neg h]
  rw[List.getElem?_eq_none (by simp;omega)];rfl
theorem Eg(N:Nat)(f:dK)(i:Nat):((tab N f)[i]?).getD .unk=rd N f i:=by
 rw[qI];unfold rd;split<;>rfl
theorem qH(N:Nat)(f:dK)(d:Nat)(v:DV):(tab N f).set d v=tab N (upd f d v):=by
 apply List.ext_getElem?
 intro i
 rw[List.getElem?_set,qI,qI]
 simp only[tab,List.length_map,List.length_range,upd]
 by_cases e:d=i
 ·subst e
  by_cases h:d<N<;>simp[h]
 ·have e':¬i=d:=fun q=>e q.symm
  simp only[if_neg e,if_neg e']
theorem qM(N:Nat)(f:dK)(dst:Option Nat)(v:DV):put (tab N f) dst v=tab N (sA f dst v):=by
 cases dst with
 | none=>rfl
 | some d=>exact qH N f d v
theorem AT(N:Nat)(args:List DV)(h:args.length≤N):args++List.replicate (N-args.length) bN=tab N (GC args):=by
 apply List.ext_getElem?
 intro i
 rw[qI,List.getElem?_append]
 unfold GC
 by_cases h1:i<args.length
 ·rw[if_pos h1,if_pos (by omega)]
  simp[h1]
 ·rw[if_neg h1]
  by_cases h2:i<N
  ·rw[if_pos h2,List.getElem?_replicate,if_pos (by omega),List.getD_eq_getElem?_getD,List.getElem?_eq_none (by omega)];rfl
  ·rw[if_neg h2,List.getElem?_replicate,if_neg (by omega)]
theorem Zn(N:Nat)(f:dK)(i:Nat):Opd.eval (tab N f) (.t i)=rd N f i:=Eg N f i
theorem PG(env:Env)(v:DV):Opd.eval env (.c v)=v:=rfl
theorem MB{N:Nat}{f:dK}{i:Nat}(h:i<N):rd N f i=f i:=if_pos h
inductive Fr where
 | seq (b:aN)
 | block (id:Nat)
 | loop (b:aN)
noncomputable def uV(D:bV):List Fr→Ex→Env→aA→Res
 | [],e,env,h=>.ok e env h
 | .seq b::S,e,env,h=>match e with
  | .normal=>match ev D b env h with
   | .ok e env h=>uV D S e env h
   | .fail=>.fail
  | e=>uV D S e env h
 | .block id::S,e,env,h=>uV D S (match e with|.exit i=>if i=id then .normal else .exit i|e=>e) env h
 | .loop b::S,e,env,h=>match e with
  | .normal=>match ev D (.loop b) env h with
   | .ok e env h=>uV D S e env h
   | .fail=>.fail
  | e=>uV D S e env h
noncomputable def after(D:bV)(S:List Fr):Res→Res
 | .ok e env h=>uV D S e env h
 | .fail=>.fail
noncomputable def run(D:bV)(N:Nat)(S:List Fr)(c:aN)(f:dK)(h:aA):Res:=after D S (ev D c (tab N f) h)
noncomputable def ret(D:bV)(N:Nat)(S:List Fr)(e:Ex)(f:dK)(h:aA):Res:=uV D S e (tab N f) h
noncomputable def CG(D:bV)(N:Nat)(S:List Fr)(a b:aN)(f:dK)(h:aA):DV→Res
 | .bool true=>run D N S a f h
 | .bool false=>run D N S b f h
 | _=>.fail
noncomputable def xP(D:bV)(N:Nat)(S:List Fr)(ops:List aJ)(f:dK)(h:aA):Res :=
 match eO (fc D) ops (tab N f) h with
 | some (env,h)=>uV D S .normal env h
 | none=>.fail
noncomputable def O4(D:bV)(N:Nat)(S:List Fr)(dst:Option Nat)(r:List aJ)(f:dK):Option (DV×aA)→Res
 | some (v,h)=>xP D N S r (sA f dst v) h
 | none=>.fail
noncomputable def O7(D:bV)(N:Nat)(S:List Fr)(o:aJ)(w:Bool)(r:List aJ)(f:dK)(h:aA):DV→Res
 | .bool b=>if b=w then O4 D N S o.dst r f (bH (fc D) o.op (tab N f) h)else xP D N S r (sA f o.dst bN) h
 | .tup _=>xP D N S r (sA f o.dst bN) h
 | _=>.fail
noncomputable def uS(D:bV)(N:Nat)(S:List Fr)(ops:List aJ)(f:dK)(hs:List aA)(L:cK):Res :=
 match dP (fc D) ops (tab N f) hs L with
 | some (env,h)=>uV D S .normal env h
 | none=>.fail
noncomputable def E3(D:bV)(N:Nat)(S:List Fr)(dst:Option Nat)(r:List aJ)(f:dK)(hs:List aA)(L:cK):Option (DV×aA)→Res
 | some (v,_)=>uS D N S r (sA f dst v) hs L
 | none=>.fail
noncomputable def E2(D:bV)(N:Nat)(S:List Fr)(dst:Option Nat)(r:List aJ)(f:dK)(hs:List aA)(L:cK):Option (DV×aA)→Res
 | some (v,h)=>uS D N S r (sA f dst v) (h::hs) L
 | none=>.fail
noncomputable def E1(D:bV)(N:Nat)(S:List Fr)(dst:Option Nat)(r:List aJ)(f:dK)(hs:List aA):Option (DV×aA×cK)→Res
 | some (v,h,L)=>uS D N S r (sA f dst v) (h::hs) L
 | none=>.fail
noncomputable def Rm(D:bV)(N:Nat)(S:List Fr)(dst:Option Nat)(op:DOp)(cm:Bool)(r:List aJ)(f:dK)(hs:List aA)(L:cK):Option aA→Res
 | some h0=>E3 D N S dst r f hs (L.see cm (mark (tab N f) op)) (aC h0 (tab N f) op)
 | none=>.fail
noncomputable def E4(D:bV)(N:Nat)(S:List Fr)(dst:Option Nat)(op:DOp)(r:List aJ)(f:dK)(h:aA)(gs:List aA)(L:cK):Option aA→Res
 | some h0=>E1 D N S dst r f (h::gs) (cT (fc D) h0.n gs.length L op (tab N f) h)
 | none=>.fail
noncomputable def zG(D:bV)(N:Nat)(S:List Fr)(dst:Option Nat)(op:DOp)(snap:Nat)(cm:Bool)(r:List aJ)(f:dK)(hs:List aA)(L:cK):sO→Res
 | .read=>if L.free snap (bT (tab N f) op)=true then Rm D N S dst op cm r f hs L (iG hs snap)else .fail
 | .write=>match hs with
  | h::_=>E2 D N S dst r f hs L (bH (fc D) op (tab N f) h)
  | []=>.fail
 | .create=>match hs with
  | h::gs=>E4 D N S dst op r f h gs L (iG hs snap)
  | []=>.fail
noncomputable def xD(D:bV)(N:Nat)(S:List Fr)(dst:Option Nat)(k:sO)(r:List aJ)(f:dK)(L:cK):List aA→Res
 | h::hs=>uS D N S r (sA f dst bN) (if k=.read then h::hs else h::h::hs) L
 | []=>.fail
noncomputable def Ro(D:bV)(N:Nat)(S:List Fr)(o:aJ)(w:Bool)(r:List aJ)(f:dK)(hs:List aA)(L:cK):DV→Res
 | .bool b=>if b=w then zG D N S o.dst o.op o.snap o.calm r f hs L o.kind else xD D N S o.dst o.kind r f L hs
 | .tup _=>xD D N S o.dst o.kind r f L hs
 | _=>.fail
noncomputable def I8(D:bV)(as:List DV)(h:aA):DV→Option (DV×aA)
 | .func g cap=>fc D g (as++cap) h
 | _=>none
section
variable (D:bV) (N:Nat) (S:List Fr) (f:dK) (h:aA)
theorem BX:run D N S .skip f h=ret D N S .normal f h:=by unfold run;rw[LC];rfl
theorem BZ(id:Nat):run D N S (.exit id) f h=ret D N S (.exit id) f h:=by unfold run;rw[LE];rfl
theorem IR:run D N S .ret f h=ret D N S .ret f h:=by unfold run;rw[PI];rfl
theorem D9(a b:aN):run D N S (.seq a b) f h=run D N (.seq b::S) a f h:=by
 unfold run
 rw[PH]
 cases ev D a (tab N f) h with
 | fail=>rfl
 | ok e env h1 =>
  cases e<;>simp only[after,uV]
theorem CB(c:Opd)(a b:aN):run D N S (.cond c a b) f h=CG D N S a b f h (c.eval (tab N f)):=by
 unfold run
 rw[LG]
 unfold CG
 split<;>simp_all[run,after]
theorem O2(id:Nat)(b:aN):run D N S (.block id b) f h=run D N (.block id::S) b f h:=by
 unfold run
 rw[FC]
 cases ev D b (tab N f) h with
 | fail=>rfl
 | ok e env h1 =>
  cases e with
  | exit i =>
   by_cases e:i=id
   ·simp only[after,uV,if_pos e]
   ·simp only[after,uV,if_neg e]
  | _=>rfl
theorem BY(b:aN):run D N S (.loop b) f h=run D N (.loop b::S) b f h:=by
 unfold run
 rw[LD]
 cases ev D b (tab N f) h with
 | fail=>rfl
 | ok e env h1 =>
  cases e<;>simp only[after,uV]
theorem Fc(ops:List aJ):run D N S (.region ops) f h=xP D N S ops f h:=by
 unfold run xP
 rw[V1]
 cases eO (fc D) ops (tab N f) h<;>rfl
theorem CA(ops:List aJ):run D N S (.draw ops) f h=uS D N S ops f [h] .start:=by
 unfold run uS
 rw[LF]
 cases dP (fc D) ops (tab N f) [h] .start<;>rfl
theorem P0(a b:aN):CG D N S a b f h (.bool true)=run D N S a f h:=rfl
theorem Xk(a b:aN):CG D N S a b f h (.bool false)=run D N S b f h:=rfl
theorem CF(a b:aN)(t:Bool):CG D N S a b f h (.bool t)=if t=true then run D N S a f h else run D N S b f h:=by cases t<;>rfl
theorem IT(e:Ex):ret D N [] e f h=.ok e (tab N f) h:=rfl
theorem IS(b:aN):ret D N (.seq b::S) .normal f h=run D N S b f h:=by
 unfold ret run;simp only[uV];cases ev D b (tab N f) h<;>rfl
theorem Nb(b:aN)(i:Nat):ret D N (.seq b::S) (.exit i) f h=ret D N S (.exit i) f h:=rfl
theorem Rq(b:aN):ret D N (.seq b::S) .ret f h=ret D N S .ret f h:=rfl
theorem P2(id:Nat):ret D N (.block id::S) .normal f h=ret D N S .normal f h:=rfl
theorem Jc(id:Nat):ret D N (.block id::S) .ret f h=ret D N S .ret f h:=rfl
theorem Fh(id i:Nat):ret D N (.block id::S) (.exit i) f h=ret D N S (if i=id then .normal else .exit i) f h:=rfl
theorem CH(b:aN):ret D N (.loop b::S) .normal f h=run D N S (.loop b) f h:=by
 unfold ret run;simp only[uV];cases ev D (.loop b) (tab N f) h<;>rfl
theorem Jb(b:aN)(i:Nat):ret D N (.loop b::S) (.exit i) f h=ret D N S (.exit i) f h:=rfl
theorem Nc(b:aN):ret D N (.loop b::S) .ret f h=ret D N S .ret f h:=rfl
theorem CC:xP D N S [] f h=ret D N S .normal f h:=rfl
theorem O5(dst:Option Nat)(op:DOp)(k:sO)(s:Nat)(cm:Bool)(r:List aJ) :
  xP D N S (⟨dst,op,none,k,s,cm⟩::r) f h=O4 D N S dst r f (bH (fc D) op (tab N f) h):=by
 unfold xP
 simp only[eO,gN]
 cases bH (fc D) op (tab N f) h with
 | none=>rfl
 | some p=>simp only[O4,qM];rfl
theorem Wz(dst:Option Nat)(op:DOp)(t:Nat)(w:Bool)(k:sO)(s:Nat)(cm:Bool)(r:List aJ) :
  xP D N S (⟨dst,op,some (t,w),k,s,cm⟩::r) f h=O7 D N S ⟨dst,op,some (t,w),k,s,cm⟩ w r f h (rd N f t):=by
 unfold xP
 simp only[eO,gN,qI]
 unfold rd
 by_cases aY:t<N
 ·simp only[if_pos aY]
  cases hv:f t with
  | bool b =>
   simp only[O7]
   by_cases e:b=w
   ·subst e
    simp only[beq_self_eq_true,if_true]
    cases bH (fc D) op (tab N f) h with
    | none=>rfl
    | some p=>simp only[O4,qM];rfl
   ·have:(b == w)=false:=by simpa using e
    simp only[this,if_neg e,qM];rfl
  | tup l=>simp only[O7,qM];rfl
  | _=>rfl
 ·simp only[if_neg aY];rfl
theorem O3(dst:Option Nat)(r:List aJ)(v:DV):O4 D N S dst r f (some (v,h))=xP D N S r (sA f dst v) h:=rfl
theorem O6(o:aJ)(w:Bool)(r:List aJ)(b:Bool):O7 D N S o w r f h (.bool b)=if b=w then O4 D N S o.dst r f (bH (fc D) o.op (tab N f) h)else xP D N S r (sA f o.dst bN) h:=rfl
theorem CD(o:aJ)(w:Bool)(r:List aJ)(l:List DV):O7 D N S o w r f h (.tup l)=xP D N S r (sA f o.dst bN) h:=rfl
variable (hs:List aA) (L:cK)
theorem CE:uS D N S [] f (h::hs) L=ret D N S .normal f h:=rfl
theorem Kn(dst:Option Nat)(op:DOp)(k:sO)(s:Nat)(cm:Bool)(r:List aJ)(g:Option (Nat×Bool)) :
  uS D N S (⟨dst,op,g,k,s,cm⟩::r) f (h::hs) L=(match gN (tab N f) g with
   | none=>.fail
   | some true=>zG D N S dst op s cm r f (h::hs) L k
   | some false=>xD D N S dst k r f L (h::hs)):=by
 unfold uS
 simp only[dP]
 cases gN (tab N f) g with
 | none=>rfl
 | some t =>
  cases t with
  | false=>simp only[xD,qM];rfl
  | true =>
   simp only[zG]
   cases k with
   | read =>
    simp only
    by_cases yP:L.free s (bT (tab N f) op)=true
    ·simp only[if_pos yP,Rm]
     cases iG (h::hs) s with
     | none=>rfl
     | some h0 =>
      simp only
      cases aC h0 (tab N f) op with
      | none=>rfl
      | some p=>simp only[E3,qM];rfl
    ·simp only[if_neg yP]
   | write =>
    simp only
    cases bH (fc D) op (tab N f) h with
    | none=>rfl
    | some p=>simp only[E2,qM];rfl
   | create =>
    simp only[E4]
    cases iG (h::hs) s with
    | none=>rfl
    | some h0 =>
     simp only
     cases cT (fc D) h0.n hs.length L op (tab N f) h with
     | none=>rfl
     | some p=>simp only[E1,qM];rfl
theorem O8(dst:Option Nat)(op:DOp)(k:sO)(s:Nat)(cm:Bool)(r:List aJ) :
  uS D N S (⟨dst,op,none,k,s,cm⟩::r) f (h::hs) L=zG D N S dst op s cm r f (h::hs) L k:=by rw[Kn];rfl
theorem Xb(dst:Option Nat)(op:DOp)(t:Nat)(w:Bool)(k:sO)(s:Nat)(cm:Bool)(r:List aJ) :
  uS D N S (⟨dst,op,some (t,w),k,s,cm⟩::r) f (h::hs) L=Ro D N S ⟨dst,op,some (t,w),k,s,cm⟩ w r f (h::hs) L (rd N f t):=by
 rw[Kn]
 simp only[gN,qI]
 unfold rd
 by_cases aY:t<N
 ·simp only[if_pos aY]
  cases hv:f t with
  | bool b =>
   simp only[Ro]
   by_cases e:b=w
   ·subst e;simp
   ·have:(b == w)=false:=by simpa using e
    simp only[this,if_neg e]
  | _=>rfl
 ·simp only[if_neg aY];rfl
theorem Xi(o:aJ)(w:Bool)(r:List aJ)(b:Bool):Ro D N S o w r f hs L (.bool b)=if b=w then zG D N S o.dst o.op o.snap o.calm r f hs L o.kind else xD D N S o.dst o.kind r f L hs:=rfl
theorem O9(o:aJ)(w:Bool)(r:List aJ)(l:List DV):Ro D N S o w r f hs L (.tup l)=xD D N S o.dst o.kind r f L hs:=rfl
theorem Xf(dst:Option Nat)(r:List aJ):xD D N S dst .read r f L (h::hs)=uS D N S r (sA f dst bN) (h::hs) L:=rfl
theorem Rj(dst:Option Nat)(r:List aJ):xD D N S dst .write r f L (h::hs)=uS D N S r (sA f dst bN) (h::h::hs) L:=rfl
theorem Mv(dst:Option Nat)(r:List aJ):xD D N S dst .create r f L (h::hs)=uS D N S r (sA f dst bN) (h::h::hs) L:=rfl
theorem Xg(dst:Option Nat)(op:DOp)(s:Nat)(cm:Bool)(r:List aJ):zG D N S dst op s cm r f hs L .read=if L.free s (bT (tab N f) op)=true then Rm D N S dst op cm r f hs L (iG hs s)else .fail:=rfl
theorem Rk(dst:Option Nat)(op:DOp)(s:Nat)(cm:Bool)(r:List aJ):zG D N S dst op s cm r f (h::hs) L .write=E2 D N S dst r f (h::hs) L (bH (fc D) op (tab N f) h):=rfl
theorem Mw(dst:Option Nat)(op:DOp)(s:Nat)(cm:Bool)(r:List aJ):zG D N S dst op s cm r f (h::hs) L .create=E4 D N S dst op r f h hs L (iG (h::hs) s):=rfl
theorem Xh(dst:Option Nat)(op:DOp)(cm:Bool)(r:List aJ)(h0:aA):Rm D N S dst op cm r f hs L (some h0)=E3 D N S dst r f hs (L.see cm (mark (tab N f) op)) (aC h0 (tab N f) op):=rfl
theorem Xj(dst:Option Nat)(op:DOp)(r:List aJ)(h0:aA):E4 D N S dst op r f h hs L (some h0)=E1 D N S dst r f (h::hs) (cT (fc D) h0.n hs.length L op (tab N f) h):=rfl
theorem Xe(dst:Option Nat)(r:List aJ)(v:DV):E3 D N S dst r f hs L (some (v,h))=uS D N S r (sA f dst v) hs L:=rfl
theorem Xd(dst:Option Nat)(r:List aJ)(v:DV):E2 D N S dst r f hs L (some (v,h))=uS D N S r (sA f dst v) (h::hs) L:=rfl
theorem Xc(dst:Option Nat)(r:List aJ)(v:DV):E1 D N S dst r f hs (some (v,h,L))=uS D N S r (sA f dst v) (h::hs) L:=rfl
theorem N4(k:Nat):iG hs k=hs.reverse[k]?:=by
 unfold iG
 split
 ·rename_i hk;rw[List.getElem?_reverse hk]
 ·rename_i hk;rw[List.getElem?_eq_none (by simp;omega)]
theorem Ya(g:Opd)(args:List Opd)(env:Env):bH (fc D) (.call g args) env h=I8 D (args.map (Opd.eval env)) h (g.eval env):=by
 simp only[bH,I8]
 split<;>simp_all
theorem A9(as:List DV)(g:Nat)(cap:List DV):I8 D as h (.func g cap)=fc D g (as++cap) h:=rfl
def fin(rs:List Kd):Res→Option (DV×aA)
 | .ok (.exit _) _ _=>none
 | .ok _ env h'=>match aL h' env rs with
  | some v=>some (v,h')
  | none=>none
 | .fail=>none
def FA(h:aA):Option DV→Option (DV×aA)
 | some v=>some (v,h)
 | none=>none
theorem LA(rs:List Kd)(env:Env):fin rs (.ok .ret env h)=FA h (aL h env rs):=by
 unfold fin FA;rfl
theorem Zk(rs:List Kd)(env:Env):fin rs (.ok .normal env h)=FA h (aL h env rs):=by
 unfold fin FA;rfl
theorem U6(v:DV):FA h (some v)=some (v,h):=rfl
theorem aM(df:aV)(args:List DV)(hl:args.length≤df.ntmps):fL (ev D) df args h=fin df.results (run D df.ntmps [] df.body (GC args) h):=by
 unfold fL run
 rw[AT _ _ hl]
 cases ev D df.body (tab df.ntmps (GC args)) h with
 | fail=>rfl
 | ok e env h1=>cases e<;>rfl
theorem Je(env:Env)(r:Kd):aL h env [r]=jN h env r:=rfl
theorem Xm(n:Nat):jN h (tab N f) (.t n)=some (rd N f n):=by simp only[jN,Eg]
theorem Jf(a:Nat)(n:Option Nat):jN h (tab N f) (.cell a n)=kB h n (rd N f a):=by simp only[jN,Eg]
end
def qT:aA:={objs:=[],n:=0,lim:=0}
noncomputable def gV(o:Option (DV×aA)):Option DV :=
 match o with
 | some (v,h')=>match resolve false h' cG v with
  | some d=>if bE cG d then some d else none
  | none=>none
 | none=>none
noncomputable def pcF(D:bV)(df:aV)(ds:List DV):Option DV:=gV (fL (ev D) df ds qT)
def dE(h:aA):Option DV→Option (DV×aA)
 | some d=>some (d,h)
 | none=>none
theorem yJ(h:aA)(d:DV):dE h (some d)=some (d,h):=rfl
noncomputable def sN(D:bV)(df:aV)(h:aA):Option (List DV)→Option (DV×aA)
 | some ds=>dE h (pcF D df ds)
 | none=>none
theorem uA(D:bV)(df:aV)(h:aA)(ds:List DV):sN D df h (some ds)=dE h (pcF D df ds):=rfl
theorem bK{D:bV}{f:Nat}{df:aV}(hh:D.hook f=none)(hf:D.fn f=some df)(hm:df.mode=.pure)(args:List DV)(h:aA) :
  fc D f args h=sN D df h (args.mapM (resolve true h cG)):=by
 rw[Tu,hh,hf]
 simp only
 unfold cX
 rw[hm]
 simp only
 cases args.mapM (resolve true h cG)with
 | none=>rfl
 | some ds =>
  simp only[sN,pcF,gV,qT,dE]
  cases fL (ev D) df ds {objs:=[],n:=0,lim:=0} with
  | none=>rfl
  | some p =>
   obtain⟨v,h'⟩:=p
   simp only
   cases resolve false h' cG v with
   | none=>rfl
   | some d =>
    simp only
    split<;>rfl
noncomputable def I7(D:bV)(df:aV):Option (List DV×aA)→Option (DV×aA)
 | some (as,h)=>sN D df h (as.mapM (resolve true h cG))
 | none=>none
theorem A8(D:bV)(df:aV)(as:List DV)(h:aA):I7 D df (some (as,h))=sN D df h (as.mapM (resolve true h cG)):=rfl
theorem tX{D:bV}{f:Nat}{df:aV}(hh:D.hook f=none)(hf:D.fn f=some df)(hm:df.mode=.frz)(args:List DV)(h:aA) :
  fc D f args h=I7 D df (tJ gP h args):=by
 rw[Tu,hh,hf]
 simp only
 unfold cX
 rw[hm]
 simp only
 cases tJ gP h args with
 | none=>rfl
 | some p =>
  obtain⟨as,h1⟩:=p
  simp only[I7]
  cases as.mapM (resolve true h1 cG)with
  | none=>rfl
  | some ds =>
   simp only[sN,pcF,gV,qT,dE]
   cases fL (ev D) df ds {objs:=[],n:=0,lim:=0} with
   | none=>rfl
   | some p =>
    obtain⟨v,h'⟩:=p
    simp only
    cases resolve false h' cG v with
    | none=>rfl
    | some d =>
     simp only
     split<;>rfl
theorem Oo{D:bV}{f:Nat}{df:aV}(hh:D.hook f=none)(hf:D.fn f=some df)(hm:df.mode=.full)(args:List DV)(h:aA) :
  fc D f args h=fL (ev D) df args h:=by
 rw[Tu,hh,hf]
 simp only
 unfold cX
 rw[hm]
theorem kW{D:bV}{f:Nat}{hk:rS}(hh:D.hook f=some hk)(args:List DV)(h:aA):fc D f args h=hk h args:=by
 rw[Tu,hh]
end Go.Dm
