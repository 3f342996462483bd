/- A part of the proof. -/
import Derived.Test.YtfkbogedodngeaaGreatMm3
import Derived.RowKit3
import Derived.Lib.Overlaps
import Derived.Lib.Bytealg
import Derived.Below
import Derived.Sort.Row
import Derived.Sort.Grow
set_option linter.all false
namespace Go.Dm
structure Je(P:Program)(D:bX):Prop where
 mixed:P.follows .mixedOrders=true
 comp:∀f df,D.fn f=some df→∃ fn,P.funcs[f]?=some fn∧aD P fn df.mode=some df
 hooks:∀f hk,D.hook f=some hk→∀args h d h' c vals,hk h args=some (d,h')→Rel h c→VRs c args vals→Hf P f vals.toArray h c h' d
 keep:vV D
section
variable {P:Program} {D:bX}
def vW(P:Program)(D:bX)(n:Nat):Prop :=
 ∀code dc h c env a e aU h' Q,bR P code=some dc→dB D n dc env h=.ok e aU h'→Rel h c→cA c env a→(∀a' w',St c h' aU a' w'→Q (Bc e) a' w')→code.wp P Q a c.w
def Lg(P:Program)(D:bX)(n:Nat):Prop :=
 ∀code dc h c env a e aU h' Q,bR P code=some dc→dB D n (.loop dc) env h=.ok e aU h'→Rel h c→cA c env a→(∀a' w',St c h' aU a' w'→Q (Bc e) a' w')→Code.rounds P code Q n a c.w
theorem Kx{c:Ctx}{args:List DV}{vals:List Value}(hv:VRs c args vals)(n:Nat) :
  cA c (args++List.replicate (n-args.length) bI) {tmps:=vals.toArray++Array.replicate (n-vals.toArray.size) Go.undef,defers:=[]}:=by
 have hl:=hv.1
 refine⟨by simp[hl],rfl,fun i hi=>?_⟩
 simp only[List.length_append,List.length_replicate]at hi
 by_cases h1:i<args.length
 ·have h2:i<vals.length:=by omega
  rw[List.getElem_append_left h1]
  have:=hv.2 i h1 h2
  simpa[Array.getElem?_append,h2]using this
 ·rw[List.getElem_append_right (by omega)]
  simp only[List.getElem_replicate]
  have h2:¬i<vals.length:=by omega
  have h3:i-vals.length<n-vals.length:=by omega
  have:(vals.toArray++Array.replicate (n-vals.toArray.size) Go.undef).getD i Go.undef=Go.undef:=by
   simp[Array.getElem?_append,h2,h3]
  rw[this]
  exact .undef
theorem oP{n : Nat}(hC : vW P D n){fn : Func}{body : Code}{df : aK}(hb : fn.body = some body)(MG : bR P body = some df.body)(LP : fn.results.toList.mapM (zP P) = some df.results)(hnt : df.ntmps = fn.ntmps)
    {f : Nat} (hf : P.funcs[f]? = some fn) {args : List DV} {vals : List Value} {h : aA} {c : Ctx} (hR : Rel h c) (hv : VRs c args vals) {d : DV} {h' : aA}
    (he : (match dB D n df.body (args ++ List.replicate (df.ntmps - args.length) bI) h with
          | .ok (.exit _) _ _ => none
          | .ok _ env h' => match aV h' env df.results with
            | some v => some (v, h')
            | none => none
          | .fail => none) = some (d, h')) : Calls P f vals.toArray c.w (rJ h c h' d) := by
  have fin : ∀ e aU h1, e = Ex.normal ∨ e = Ex.ret → dB D n df.body (args ++ List.replicate (df.ntmps - args.length) bI) h = .ok e aU h1 → aV h1 aU df.results = some d → h1 = h' → Calls P f vals.toArray c.w (rJ h c h' d) := by
    intro e aU h1 BQ gO hres e1
    subst e1
    refine calls_of_wp hf hb (hC body df.body h c _ _ e aU h1 _ MG gO hR (by have := Kx hv df.ntmps; rw[hnt]at this ⊢; exact this) fun a' w' cX => ?_)
    obtain⟨ρ', k1, k2, k3⟩ := cX
    obtain⟨v, r1, r2⟩ := Hx (P := P) (fn := fn) LP k1 k3 hres
    have : a'.defers = [] ∧ ∃ v, (results fn a'.tmps).run P w' = .ok v w' ∧ rJ h c h1 d (.returned v) w' := ⟨k3.defers, v, r1, v, rfl, ρ', k1, k2, r2⟩
    rcases BQ with rfl | rfl
    · exact this
    · exact this
  split at he
  · cases he
  · rename_i e aU h1 cS gO
    split at he
    · rename_i v hres
      cases he
      refine fin e aU _ ?_ gO hres rfl
      cases e with
      | normal => exact .inl rfl
      | exit id => exact absurd rfl (cS id)
      | ret => exact .inr rfl
    · cases he
  · cases he
theorem Tg(hk : vV D){n : Nat}{df : aK}{args : List DV}{h h' : aA}{d : DV}(hl : h.lim ≤ h.n)
    (he : (match dB D n df.body (args ++ List.replicate (df.ntmps - args.length) bI) h with
          | .ok (.exit _) _ _ => none
          | .ok _ env h' => match aV h' env df.results with
            | some v => some (v, h')
            | none => none
          | .fail => none) = some (d, h')) : dT h h' := by
  split at he
  · cases he
  · rename_i h2
    split at he
    · cases he; exact Gl hk n _ _ _ _ _ _ hl h2
    · cases he
  · cases he
theorem lB {f : FuncId} {fn : Func} {body : Code} (hf : P.funcs[f]? = some fn) (hb : fn.body = some body) (hn : fn.name ≠ "runtime.NumGoroutine") (vals : Array Value) (w : World) : (callFunc f vals).run P w = .ok (.enter f vals) w := by
 simp[callFunc,hf,hb,hn]
theorem uI(G:Je P D){n:Nat}(hC:vW P D n):iF P (enter (dB D n) D):=by
 intro f args h d h' c vals he hR hv
 unfold enter at he
 split at he
 ·rename_i hk pG;exact G.hooks f hk pG args h d h' c vals he hR hv
 ·split at he
  ·cases he
  ·rename_i df hdf
   obtain⟨fn,hf,OK⟩:=G.comp f df hdf
   unfold aD at OK
   split at OK
   ·rename_i body hb
    split at OK
    ·rename_i b rs MG LP
     split at OK
     ·rename_i Fp
      refine .inr ⟨f,vals.toArray,lB hf hb Fp _ _,?_⟩
      have hdfe:df={ntmps:=fn.ntmps,results:=rs,body:=b,mode:=df.mode}:=(Option.some.inj OK).symm
      have e1:df.body=b:=by rw[hdfe]
      have e2:df.results=rs:=by rw[hdfe]
      have e3:df.ntmps=fn.ntmps:=by rw[hdfe]
      simp only at he
      split at he
      ·exact oP hC hb (by rw[e1];exact MG) (by rw[e2];exact LP) e3 hf hR hv he
      ·split at he
       ·rename_i v1 h1 Ks
        cases he
        have:=oP hC hb (by rw[e1];exact MG) (by rw[e2];exact LP) e3 hf (hR.setLim (Nat.le_refl _)) hv Ks
        refine this.mono fun e w' hp=>?_
        obtain⟨v,e0,ρ',k1,k2,k3⟩:=hp
        have Ft:=Tg G.keep (Nat.le_refl _) Ks
        exact⟨v,e0,ρ',k1.setLim (Nat.le_trans hR.lim Ft.n),k2,k3⟩
       ·cases he
      ·split at he
       ·rename_i ds Cb
        split at he
        ·rename_i v1 h1 Ks
         split at he
         ·rename_i d1 Y4
          split at he
          ·rename_i IB
           cases he
           have:=oP hC hb (by rw[e1];exact MG) (by rw[e2];exact LP) e3 hf hR.lend (By hR Cb hv) Ks
           refine this.mono fun e w' hp=>?_
           obtain⟨v,e0,ρ',k1,k2,k3⟩:=hp
           exact⟨v,e0,Rq hR k1 k2 k3 Y4 IB⟩
          ·cases he
         ·cases he
        ·cases he
       ·cases he
      ·split at he
       ·rename_i id sz off len rest
        split at he
        ·rename_i ety dK xs Il
         split at he
         ·rename_i bU
          obtain⟨hcond1,hcond2⟩:=bU
          subst hcond1
          split at he
          ·rename_i l hl
           split at he
           ·rename_i gR
            cases he
            have hv0:∃ v0 vr,vals=v0::vr:=by
             cases vals with
             | nil=>have:=hv.1;simp at this
             | cons v0 vr=>exact⟨v0,vr,rfl⟩
            obtain⟨v0,vr,rfl⟩:=hv0
            have hvh:VR c (.sl id sz off len) v0:=hv.2 0 (by simp) (by simp)
            obtain⟨e,cap,ρ1,hcase,k1,k2,k3⟩:=DF hR Il hvh ((rest.map zZ).foldl (·+·) 0)
            have hscn:nZ h ety sz (match dB D n df.body ((.sl h.n sz off len::rest)++List.replicate (df.ntmps-(DV.sl h.n sz off len::rest).length) bI) {(h.set id .dead).push (.arr ety sz (xs++List.replicate e .unk) cap)with lim:=h.n} with
              | .ok (.exit _) _ _=>none
              | .ok _ env h'=>match aV h' env df.results with
               | some v=>some (v,h')
               | none=>none
              | .fail=>none)=some l:=by
             rcases hcase with⟨rfl,rfl⟩|⟨aZ,rfl⟩
             ·exact hl
             ·have:=List.all_eq_true.1 gR e (List.mem_range.2 aZ)
              split at this
              ·rename_i l' Vk
               rw[nN _ _ this];exact Vk
              ·cases this
            have Ks:∃ r hj,(match dB D n df.body ((.sl h.n sz off len::rest)++List.replicate (df.ntmps-(DV.sl h.n sz off len::rest).length) bI) {(h.set id .dead).push (.arr ety sz (xs++List.replicate e .unk) cap)with lim:=h.n} with
              | .ok (.exit _) _ _=>none
              | .ok _ env h'=>match aV h' env df.results with
               | some v=>some (v,h')
               | none=>none
              | .fail=>none)=some (r,hj):=by
             cases hx:(match dB D n df.body ((.sl h.n sz off len::rest)++List.replicate (df.ntmps-(DV.sl h.n sz off len::rest).length) bI) {(h.set id .dead).push (.arr ety sz (xs++List.replicate e .unk) cap)with lim:=h.n} with
              | .ok (.exit _) _ _=>none
              | .ok _ env h'=>match aV h' env df.results with
               | some v=>some (v,h')
               | none=>none
              | .fail=>none)with
             | none=>rw[hx]at hscn;cases hscn
             | some p=>exact⟨p.1,p.2,rfl⟩
            obtain⟨r,hj,Ks⟩:=Ks
            rw[Ks]at hscn
            have bH:h.n≤((h.set id .dead).push (.arr ety sz (xs++List.replicate e .unk) cap)).n:=Nat.le_succ _
            have GN:VRs (c.next c.w ρ1 ((h.set id .dead).push (.arr ety sz (xs++List.replicate e .unk) cap))) (.sl h.n sz off len::rest) (v0::vr):=by
             refine⟨hv.1,fun i h1 h2=>?_⟩
             cases i with
             | zero=>exact k3
             | succ i=>exact(hv.2 (i+1) h1 h2).mono k2
            have gQ:=oP hC hb (by rw[e1];exact MG) (by rw[e2];exact LP) e3 hf (k1.setLim bH) GN Ks
            have hkp:=Tg G.keep bH Ks
            refine gQ.mono fun e w' hp=>?_
            obtain⟨v,e0,ρj,q1,q2,q3⟩:=hp
            refine⟨v,e0,Q5 hR Il q1 (k2.trans q2) (fun i hi=>?_) hscn q3⟩
            have:=hkp.get i hi
            rw[this]
            exact aN hi
           ·cases he
          ·cases he
         ·cases he
        ·exact oP hC hb (by rw[e1];exact MG) (by rw[e2];exact LP) e3 hf hR hv he
       ·exact oP hC hb (by rw[e1];exact MG) (by rw[e2];exact LP) e3 hf hR hv he
      ·split at he
       ·rename_i as h1 ea
        obtain⟨kF,kV⟩:=Ff (fun a b c=>Ip a b c) hR hv ea
        split at he
        ·rename_i ds Cb
         split at he
         ·rename_i v1 h2 Ks
          split at he
          ·rename_i d1 Y4
           split at he
           ·rename_i IB
            cases he
            have:=oP hC hb (by rw[e1];exact MG) (by rw[e2];exact LP) e3 hf kF.1.lend (By kF.1 Cb kV) Ks
            refine this.mono fun e w' hp=>?_
            obtain⟨v,e0,ρ',k1,k2,k3⟩:=hp
            obtain⟨ρ2,p1,p2,p3⟩:=Rq kF.1 k1 k2 k3 Y4 IB
            exact⟨v,e0,ρ2,p1,kF.2.trans p2,p3⟩
           ·cases he
          ·cases he
         ·cases he
        ·cases he
       ·cases he
     ·cases OK
    ·cases OK
   ·cases OK
theorem nU(a b:aI):∃ x y,Fc a b=.seq x y:=by
 unfold Fc
 cases hw:sZ a b with
 | none=>exact⟨a,b,rfl⟩
 | some r =>
  unfold sZ at hw
  split at hw
  ·split at hw
   ·split at hw
    ·cases hw;exact⟨_,_,rfl⟩
    ·cases hw
   ·cases hw
  ·cases hw
theorem wW{a b r:aI}(hw:sZ a b=some r):∃ ds dl x it nx ok en X Y kl ops bb d1 d2 d3,a=.region ds∧ds.getLast?=some dl∧(dl.dst=some it∧dl.op=.range x∧dl.guard=none) ∧
  b=.block X (.loop (.seq (.region [d1,d2]) (.seq (.cond (.t ok) .skip (.exit X)) (.block Y (.seq (.region (d3::ops)) bb)))))∧(d1.dst=some nx∧d1.op=.next (.t it)∧d1.guard=none)∧(d2.dst=some ok∧d2.op=.extract (.t nx) 0∧d2.guard=none) ∧
  (d3.dst=some en∧d3.op=.entry (.t it)∧d3.guard=none)∧Nk bb=true∧(it≠nx∧it≠ok)∧r=.seq (.region ds.dropLast) (.walk x it nx ok en X Y kl ops bb):=by
 unfold sZ at hw
 split at hw
 ·split at hw
  ·rename_i hl
   split at hw
   ·rename_i hc
    obtain⟨⟨rfl,rfl,rfl,rfl,rfl⟩,hb,cS⟩:=hc
    cases hw
    exact⟨_,_,_,_,_,_,_,_,_,_,_,_,_,_,_,rfl,hl,⟨rfl,rfl,rfl⟩,rfl,⟨rfl,rfl,rfl⟩,⟨rfl,rfl,rfl⟩,⟨rfl,rfl,rfl⟩,hb,cS,rfl⟩
   ·cases hw
  ·cases hw
 ·cases hw
theorem mX{code:Code}{ds:List aJ}(hc:bR P code=some (.region ds)):∃ id ops,code=.region id ops false∧ops.toList.mapM (dA P ops.toList .write 0)=some ds:=by
 cases code<;>unfold bR at hc
 case region id ops draw =>
  cases draw with
  | false =>
   simp only[fC,Bool.false_eq_true,if_false]at hc
   split at hc
   ·rename_i h;cases hc;exact⟨id,ops,rfl,h⟩
   ·cases hc
  | true =>
   obtain⟨bS,bs,e,_⟩:=eK hc
   cases e
 case seq a b =>
  split at hc
  ·obtain⟨x,y,e⟩:=nU _ _
   rw[e]at hc;cases hc
  ·cases hc
 all_goals ((repeat' split at hc)<;>first|(cases hc;done)|(simp at hc;done))
theorem sL{code:Code}{a b:aI}(hc:bR P code=some (.seq a b))(hb:Nk b=true):∃ x y,code=.seq x y∧bR P x=some a∧bR P y=some b:=by
 cases code<;>unfold bR at hc
 case seq x y =>
  split at hc
  ·rename_i da db h1 h2
   cases hw:sZ da db with
   | none =>
    unfold Fc at hc
    rw[hw]at hc
    cases hc
    exact⟨x,y,rfl,h1,h2⟩
   | some r =>
    obtain⟨ds,dl,x0,it,nx,ok,en,X,Y,kl,ops,bb,d1,d2,d3,_,_,_,_,_,_,_,_,_,rfl⟩:=wW hw
    unfold Fc at hc
    rw[hw]at hc
    cases hc
    cases hb
  ·cases hc
 case region id ops draw =>
  cases draw with
  | false =>
   simp only[fC,Bool.false_eq_true,if_false]at hc
   split at hc<;>cases hc
  | true =>
   obtain⟨bS,bs,e,_⟩:=eK hc
   cases e
 all_goals ((repeat' split at hc)<;>first|(cases hc;done)|(simp at hc;done))
theorem uL{code:Code}{X:Nat}{b:aI}(hc:bR P code=some (.block X b)):∃ y,code=.block X y∧bR P y=some b:=by
 cases code<;>unfold bR at hc
 case block id y =>
  split at hc
  ·rename_i h;cases hc;exact⟨y,rfl,h⟩
  ·cases hc
 case region id ops draw =>
  cases draw with
  | false =>
   simp only[fC,Bool.false_eq_true,if_false]at hc
   split at hc<;>cases hc
  | true =>
   obtain⟨bS,bs,e,_⟩:=eK hc
   cases e
 case seq a b =>
  split at hc
  ·obtain⟨x,y,e⟩:=nU _ _
   rw[e]at hc;cases hc
  ·cases hc
 all_goals ((repeat' split at hc)<;>first|(cases hc;done)|(simp at hc;done))
theorem Iy{code:Code}{b:aI}(hc:bR P code=some (.loop b)):∃ y,code=.loop y∧bR P y=some b:=by
 cases code<;>unfold bR at hc
 case loop y =>
  split at hc
  ·rename_i h;cases hc;exact⟨y,rfl,h⟩
  ·cases hc
 case region id ops draw =>
  cases draw with
  | false =>
   simp only[fC,Bool.false_eq_true,if_false]at hc
   split at hc<;>cases hc
  | true =>
   obtain⟨bS,bs,e,_⟩:=eK hc
   cases e
 case seq a b =>
  split at hc
  ·obtain⟨x,y,e⟩:=nU _ _
   rw[e]at hc;cases hc
  ·cases hc
 all_goals ((repeat' split at hc)<;>first|(cases hc;done)|(simp at hc;done))
theorem Ja{code:Code}{c:Opd}{a b:aI}(hc:bR P code=some (.cond c a b)):∃ o x y,code=.cond o x y∧opd o=some c∧bR P x=some a∧bR P y=some b:=by
 cases code<;>unfold bR at hc
 case cond o x y =>
  split at hc
  ·rename_i h1 h2 h3;cases hc;exact⟨o,x,y,rfl,h1,h2,h3⟩
  ·cases hc
 case region id ops draw =>
  cases draw with
  | false =>
   simp only[fC,Bool.false_eq_true,if_false]at hc
   split at hc<;>cases hc
  | true =>
   obtain⟨bS,bs,e,_⟩:=eK hc
   cases e
 case seq a b =>
  split at hc
  ·obtain⟨x,y,e⟩:=nU _ _
   rw[e]at hc;cases hc
  ·cases hc
 all_goals ((repeat' split at hc)<;>first|(cases hc;done)|(simp at hc;done))
theorem Ix{code:Code}(hc:bR P code=some .skip):code=.skip:=by
 cases code<;>unfold bR at hc
 case skip=>rfl
 case region id ops draw =>
  cases draw with
  | false =>
   simp only[fC,Bool.false_eq_true,if_false]at hc
   split at hc<;>cases hc
  | true =>
   obtain⟨bS,bs,e,_⟩:=eK hc
   cases e
 case seq a b =>
  split at hc
  ·obtain⟨x,y,e⟩:=nU _ _
   rw[e]at hc;cases hc
  ·cases hc
 all_goals ((repeat' split at hc)<;>first|(cases hc;done)|(simp at hc;done))
theorem Iz{code:Code}{X:Nat}(hc:bR P code=some (.exit X)):code=.exit X:=by
 cases code<;>unfold bR at hc
 case exit id=>cases hc;rfl
 case region id ops draw =>
  cases draw with
  | false =>
   simp only[fC,Bool.false_eq_true,if_false]at hc
   split at hc<;>cases hc
  | true =>
   obtain⟨bS,bs,e,_⟩:=eK hc
   cases e
 case seq a b =>
  split at hc
  ·obtain⟨x,y,e⟩:=nU _ _
   rw[e]at hc;cases hc
  ·cases hc
 all_goals ((repeat' split at hc)<;>first|(cases hc;done)|(simp at hc;done))
theorem Kf{α β:Type}{f:α→Option β}:∀{l:List α} {r:List β} {d:β},l.mapM f=some (r++[d])→∃ l' o,l=l'++[o]∧l'.mapM f=some r∧f o=some d:=by
 intro l
 induction l with
 | nil=>intro r d h;simp at h
 | cons x l ih =>
  intro r d h
  simp only[List.mapM_cons,Option.pure_def,Option.bind_eq_bind,Option.bind_eq_some_iff]at h
  obtain⟨y,hy,ys,vK,h⟩:=h
  cases r with
  | nil =>
   simp only[List.nil_append,Option.some.injEq,List.cons.injEq]at h
   obtain⟨rfl,rfl⟩:=h
   have hl:=cB _ _ _ vK
   have:l=[]:=List.length_eq_zero_iff.1 (by simpa using hl.symm)
   subst this
   exact⟨[],x,rfl,rfl,hy⟩
  | cons z r =>
   simp only[List.cons_append,Option.some.injEq,List.cons.injEq]at h
   obtain⟨rfl,rfl⟩:=h
   obtain⟨l',o,rfl,h1,h2⟩:=ih vK
   exact⟨x::l',o,rfl,by simp[hy,h1],h2⟩
theorem Vs{call:gX}{run:aI→Env→aA→Res}(gQ:iF P call)
  (hcode:∀code dc h c env a e aU h' (Q:Exit→Act→World→Prop),bR P code=some dc→run dc env h=.ok e aU h'→Rel h c→cA c env a→(∀a' w',St c h' aU a' w'→Q (Bc e) a' w')→code.wp P Q a c.w)
  {x y:Code} {dx dy r1:aI} {rr:aI} (hx:bR P x=some dx) (hy:bR P y=some dy) (hw:sZ dx dy=some rr) {h:aA} {c:Ctx} {env:Env} {a:Act} {e:Ex} {aU:Env} {h':aA} {Q:Exit→Act→World→Prop} {env1:Env} {h1:aA}
  {ds:List aJ} {xo:Opd} {it nx ok en X Y:Nat} {kl:List Nat} {ops:List aJ} {bb:aI} (hrr:rr=.seq (.region ds) (.walk xo it nx ok en X Y kl ops bb)) (he1:eP call ds env h=some (env1,h1))
  (he2:Dp call run it nx ok en X Y kl ops bb env1 h1 (rF h1 (xo.eval env1))=.ok e aU h') (hR:Rel h c) (hE:cA c env a) (hQ:∀a' w',St c h' aU a' w'→Q (Bc e) a' w'):(Code.seq x y).wp P Q a c.w:=by
 obtain⟨ds0,dl,x0,it0,nx0,ok0,en0,X0,Y0,kl0,ops0,bb0,d1,d2,d3,rfl,hlast,hdl,rfl,Y4,ME,SJ,hnw,cS,e0⟩:=wW hw
 rw[hrr]at e0
 simp only[aI.seq.injEq,aI.region.injEq,aI.walk.injEq]at e0
 obtain⟨rfl,rfl,rfl,rfl,rfl,rfl,rfl,rfl,rfl,rfl,rfl⟩:=e0
 obtain⟨idA,opsA,rfl,hmA⟩:=mX hx
 obtain⟨y1,rfl,hy1⟩:=uL hy
 obtain⟨y2,rfl,hy2⟩:=Iy hy1
 obtain⟨y3,y4,rfl,hy3,hy4⟩:=sL hy2 rfl
 obtain⟨i2,ops2,rfl,BO⟩:=mX hy3
 obtain⟨y5,y6,rfl,hy5,hy6⟩:=sL hy4 rfl
 obtain⟨okO,y7,y8,rfl,kok,hy7,hy8⟩:=Ja hy5
 rw[Ix hy7,Iz hy8]
 obtain⟨y9,rfl,hy9⟩:=uL hy6
 obtain⟨y10,v,rfl,hy10,hv⟩:=sL hy9 hnw
 obtain⟨i3,ops3,rfl,hm3⟩:=mX hy10
 have hds0:ds0=ds0.dropLast++[dl]:=by
  have hne0:ds0≠[]:=by intro h0;subst h0;simp at hlast
  rw[List.getLast?_eq_some_getLast hne0]at hlast
  cases hlast
  exact(List.dropLast_concat_getLast hne0).symm
 rw[hds0]at hmA
 obtain⟨lA,oR,eA,mA,cR⟩:=Kf hmA
 obtain⟨o1,r2,e2,k1,hr2⟩:∃ o1 r2,ops2.toList=o1::r2∧dA P ops2.toList .write 0 o1=some d1∧r2.mapM (dA P ops2.toList .write 0)=some [d2]:=by
  generalize ops2.toList=l at BO
  have:∀l0:List Oper,l.mapM (dA P l0 .write 0)=some [d1,d2]→∃ o1 r2,l=o1::r2∧dA P l0 .write 0 o1=some d1∧r2.mapM (dA P l0 .write 0)=some [d2]:=by
   intro l0 hm
   cases l with
   | nil=>simp at hm
   | cons o r =>
    simp only[List.mapM_cons,Option.pure_def,Option.bind_eq_bind,Option.bind_eq_some_iff]at hm
    obtain⟨y,hy,ys,vK,h⟩:=hm
    cases h
    exact⟨o,r,rfl,hy,vK⟩
  exact this l BO
 obtain⟨o2,rfl,k2⟩:∃ o2,r2=[o2]∧dA P ops2.toList .write 0 o2=some d2:=by
  obtain⟨l',o,e,h1,h2⟩:=Kf (r:=[]) hr2
  have hl:=cB _ _ _ h1
  have:l'=[]:=List.length_eq_zero_iff.1 (by simpa using hl.symm)
  subst this
  exact⟨o,e,h2⟩
 obtain⟨o3,l3,e3,k3,k4⟩:∃ o3 l3,ops3.toList=o3::l3∧dA P ops3.toList .write 0 o3=some d3∧l3.mapM (dA P ops3.toList .write 0)=some ops:=by
  generalize ops3.toList=l at hm3
  have:∀l0:List Oper,l.mapM (dA P l0 .write 0)=some (d3::ops)→∃ o3 l3,l=o3::l3∧dA P l0 .write 0 o3=some d3∧l3.mapM (dA P l0 .write 0)=some ops:=by
   intro l0 hm
   cases l with
   | nil=>simp at hm
   | cons o r =>
    simp only[List.mapM_cons,Option.pure_def,Option.bind_eq_bind,Option.bind_eq_some_iff]at hm
    obtain⟨y,hy,ys,vK,h⟩:=hm
    cases h
    exact⟨o,r,rfl,hy,vK⟩
  exact this l hm3
 obtain⟨g1,g2,g3,_,_⟩:=hM cR
 rw[hdl.2.1]at g1
 rw[hdl.2.2]at g2
 rw[hdl.1]at g3
 obtain⟨tR,xR,kT,eT,hoR,huR,hxR⟩:=Ov g1
 refine wp_seq (mF ?_)
 rw[eA]at mA g2 ⊢
 refine wN gQ lA ds0.dropLast h c env a env1 h1 mA he1 hR hE fun a1 w1 cX=>?_
 obtain⟨ρ1,hR1,Sz,hE1⟩:=cX
 generalize sU:c.next w1 ρ1 h1=cc at hR1 Sz hE1
 have Vh:w1=cc.w:=by rw[←sU];rfl
 rw[Vh]
 obtain⟨m,es,hxm,hg,LK,gR⟩:=Jh he2
 have dF:=bG hxR hE1
 rw[hxm]at dF
 obtain⟨mb,dF,hρ⟩:=dF.map_inv
 obtain⟨es',ents,clk,jR,zH,jS,nC⟩:=hR1.mapo hg hρ
 have Ks:(getObj mb).run P cc.w=.ok (.map ents clk) cc.w:=by simp[getObj,Sem.run,zH]
 refine wpList_step fun K hK=>?_
 rw[if_pos (fU g2 hE1 rfl)]
 have hexR:(execOp a1.eval oR).run P cc.w=.ok (.value (.pointer (some ⟨cc.w.heap.size,0,none⟩))) {cc.w with heap:=cc.w.heap.push (.mapIter (some mb) clk #[] clk)}:=by
  simp[execOp,hoR,Instr.range,run_underlying huR,dF,Ks]
 unfold Oper.wp
 rw[hexR]
 refine hK _ _ (wpList_nil ?_)
 have hS:=hR1.shut hg hρ
 have hmlt:=cZ hg
 generalize MH:({cc with E:=fun b=>cc.E b∨b=mb}:Ctx)=c1 at hS
 have hc1w:c1.w=cc.w:=by rw[←MH]
 have hbi:∀b,c1.E b→b≠cc.w.heap.size:=fun b hb=>by have:=(hS.pend b hb).1;rw[hc1w]at this;omega
 obtain⟨hA,hleA⟩:=hS.early (w':={cc.w with heap:=cc.w.heap.push (.mapIter (some mb) clk #[] clk)}) (by simp[hc1w]) (fun k hk=>by
  rw[hc1w]at hk ⊢
  simp only[Array.getElem?_push]
  rw[if_neg (by omega)]) (by rw[hc1w];exact .push rfl trivial rfl rfl)
 obtain⟨hB,hleB⟩:=hA.nameE cc.w.heap.size
 have oJ:=hleA.trans hleB
 have hn1:(h1.set m .dead).n=h1.n:=rfl
 generalize hC3:(⟨{cc.w with heap:=cc.w.heap.push (.mapIter (some mb) clk #[] clk)},fun i=>if i=(h1.set m .dead).n then some (cc.w.heap.size,0)else c1.ρ i,fun b=>c1.O b∨b=c1.w.heap.size,c1.X,fun b=>c1.E b∨b=c1.w.heap.size,c1.τ⟩:Ctx)=C3 at hB oJ
 have hC3w:C3.w={cc.w with heap:=cc.w.heap.push (.mapIter (some mb) clk #[] clk)}:=by rw[←hC3]
 have hC3E:C3.E=fun b=>c1.E b∨b=cc.w.heap.size:=by rw[←hC3,←hc1w]
 have hC3nm:C3.ρ h1.n=some (cc.w.heap.size,0):=by rw[←hC3];exact if_pos rfl
 have I:nE c1 mb cc.w.heap.size clk h1.n (qS h1 m) C3 #[]:=by
  refine⟨hB,⟨oJ.rho,oJ.size,oJ.frame,oJ.own,oJ.shape,oJ.X,fun b hb he=>⟨he,(oJ.pend b hb (by rw[hC3E];exact .inl he)).2⟩,oJ.quiet,oJ.tok⟩,hC3E,by rw[←hC3],?_,hC3nm⟩
  rw[hC3w];simp
 have hE3:cA C3 (env1.set it (.ptr h1.n 0 0 0)) (a1.put oR.dst (.pointer (some ⟨cc.w.heap.size,0,none⟩))):=by
  have h0:cA C3 env1 a1:=⟨hE1.size,hE1.defers,fun i hi=>by
   have:=(hE1.val i hi).setE (fun b=>cc.E b∨b=mb)
   rw[MH]at this
   exact this.mono oJ⟩
  have hp:VR C3 (.ptr h1.n 0 0 0) (.pointer (some ⟨cc.w.heap.size,0,none⟩)):=by
   have:=VR.ptr (sz:=0) (idx:=0) (off:=0) hC3nm
   simpa using this
  rw[←g3]
  exact h0.put hp (some it)
 rw[show({cc.w with heap:=cc.w.heap.push (.mapIter (some mb) clk #[] clk)}:World)=C3.w from hC3w.symm]
 show(Code.block X _).wp P Q _ C3.w
 refine wp_block (wp_loop_rounds (ents.size+1) ?_)
 have bY:es'.length=ents.size:=by simpa using jS.1
 have hmap:((List.range ents.size).map fun j=>es'.getD j (.unk,.unk))=es':=by
  apply List.ext_getElem
  ·simp[bY]
  ·intro i h1 h2;simp at h1;simp[h2]
 have hc1E:c1.E mb:=by rw[←MH];exact .inr rfl
 have hwi0:=LK
 unfold nX at LK
 refine Mu (Fin:=fun e1 envx Hh=>e1=e∧∃ e2 env2 h2,sM kl m es env1 h1 (.ok e1 envx Hh)=.ok e2 env2 h2∧aU=env2∧Da GW h'.objs h2.objs=true) gQ (fun h c env a e aU h' Q hr hR hE hQ=>hcode v bb h c env a e aU h' Q hv hr hR hE hQ) e2 e3 k1 Y4 k2 ME k3 SJ k4 kok cS hbi hc1E (ents:=ents) (by rw[hc1w];exact zH) nC (es':=es') ?_ ?_ ents.size (List.range ents.size) (by simp) List.nodup_range (fun j hj=>List.mem_range.1 hj) (qS h1 m) C3 _ _ #[] I hE3 (fun j hj=>by simp[hj]) ?_
 ·refine⟨jS.1,fun i e1 m1 h3 h4=>?_⟩
  have:=jS.2 i e1 m1 h3 h4
  have q1:=this.1.setE (fun b=>cc.E b∨b=mb)
  have q2:=this.2.setE (fun b=>cc.E b∨b=mb)
  rw[MH]at q1 q2
  exact⟨q1,q2⟩
 ·rintro e1 envx Hh C ax seen ⟨rfl,e2',env2,h2,vM,L5,hz⟩ IC hEC
  obtain⟨_,_,hh',_⟩:∃ e3 env3 h3,sM kl m es env1 h1 (.ok e3 env3 h3)=.ok e1 aU h':=by
   cases BM:rounds call run it nx ok en X Y h1.n ops bb es (env1.set it (.ptr h1.n 0 0 0)) (qS h1 m)with
   | fail=>rw[BM]at LK;cases LK
   | ok e3 env3 h3=>rw[BM]at LK;exact⟨e3,env3,h3,LK⟩
  rename_i hcl'
  obtain⟨_,_,rfl,_,_,_⟩:=xS hcl'
  have cX:=Uj hR1 hg hρ jR zH nC jS hE1 (by rw[MH];exact IC) hEC vM L5 (by rfl) (by rfl) hz
  rw[←sU]at cX
  exact hQ _ _ (cX.trans (by rw[sU];exact Sz))
 ·intro l hl
  rw[hmap]at hl
  have hp:=gR l (U6 (hl.trans jR.symm))
  unfold nX at hp
  cases BM:rounds call run it nx ok en X Y h1.n ops bb l (env1.set it (.ptr h1.n 0 0 0)) (qS h1 m)with
  | fail=>rw[BM]at hp;simp[sM,Z9]at hp
  | ok e3 env3 h3 =>
   rw[BM]at hp
   cases vM:sM kl m es env1 h1 (.ok e3 env3 h3)with
   | fail=>rw[vM]at hp;simp[Z9]at hp
   | ok e4 env4 h4 =>
    rw[vM]at hp
    simp only[Z9,Bool.and_eq_true,decide_eq_true_eq]at hp
    obtain⟨q1,_⟩:=xS vM
    exact⟨e3,env3,h3,rfl,by rw[hp.1,q1],e4,env4,h4,vM,nN _ _ hp.2.1,hp.2.2⟩
theorem Jb(G:Je P D):∀n m,m≤n→vW P D m∧Lg P D m:=by
 intro n
 induction n with
 | zero =>
  intro m hm
  rw[Nat.le_zero.1 hm]
  refine⟨fun code dc h c env a e aU h' Q _ he=>?_,fun code dc h c env a e aU h' Q _ he=>?_⟩
  ·cases he
  ·cases he
 | succ n ih =>
  intro m hm
  rcases Nat.lt_or_ge m (n+1)with aZ|SI
  ·exact ih m (by omega)
  rw[Nat.le_antisymm hm SI]
  obtain⟨iC,iL⟩:=ih n (Nat.le_refl _)
  have gQ:=uI G iC
  have Ft:=pW (run:=dB D n) G.keep (Gl G.keep n)
  refine⟨?_,?_⟩
  ·intro code dc h c env a e aU h' Q sU he hR hE hQ
   unfold bR at sU
   split at sU
   ·cases sU
    simp only[dB]at he
    cases he
    exact wp_skip (hQ _ _ ⟨c.ρ,by rw[hR.same];exact⟨hR,.refl c,hE⟩⟩)
   ·rename_i x y
    split at sU
    ·rename_i _ _ dx dy hx hy
     cases sU
     cases hw:sZ dx dy with
     | some r =>
      obtain⟨ds,dl,x0,it,nx,ok,en,X,Y,kl,ops,bb,d1,d2,d3,_,_,_,_,_,_,_,_,_,hr⟩:=wW hw
      unfold Fc at he
      rw[hw,hr]at he
      simp only[Option.getD_some,dB]at he
      cases n with
      | zero=>simp only[dB]at he;cases he
      | succ k =>
       simp only[dB]at he
       split at he
       ·rename_i env1 h1 h2
        split at h2
        ·rename_i h3
         cases h2
         obtain⟨jC,jL⟩:=ih k (Nat.le_succ _)
         exact Vs (r1:=dx) (uI G jC) jC hx hy hw hr h3 he hR hE hQ
        ·cases h2
       ·rename_i cS
        split at he
        ·rename_i h3;exact absurd (by rw[h3]) (cS _ _)
        ·cases he
     | none =>
     unfold Fc at he
     rw[hw]at he
     simp only[Option.getD_none,dB]at he
     refine wp_seq ?_
     split at he
     ·rename_i env1 h1 h2
      refine iC x dx h c env a .normal env1 h1 _ hx h2 hR hE fun a' w' cX=>?_
      obtain⟨ρ',k1,k2,k3⟩:=cX
      show y.wp P Q a' w'
      exact iC y dy h1 (c.next w' ρ' h1) env1 a' e aU h' Q hy he k1 k3 fun a2 w2 Fk=>hQ _ _ (Fk.trans k2)
     ·rename_i cS
      refine iC x dx h c env a e aU h' _ hx he hR hE fun a' w' cX=>?_
      have:=hQ a' w' cX
      cases e with
      | normal=>exact absurd he (cS aU h')
      | exit id=>exact this
      | ret=>exact this
    ·cases sU
   ·rename_i cd x y
    split at sU
    ·rename_i _ _ _ cd' dx dy h1 h2 h3
     cases sU
     simp only[dB]at he
     have hv:=bG h1 hE
     split at he
     ·rename_i MF
      rw[MF]at hv
      exact wp_cond_true hv.bool_inv (iC x dx h c env a e aU h' Q h2 he hR hE hQ)
     ·rename_i MF
      rw[MF]at hv
      exact wp_cond_false hv.bool_inv (iC y dy h c env a e aU h' Q h3 he hR hE hQ)
     ·cases he
    ·cases sU
   ·rename_i id b
    split at sU
    ·rename_i _ db hb
     cases sU
     simp only[dB]at he
     refine wp_block ?_
     split at he
     ·rename_i id' env1 h1 h2
      split at he
      ·rename_i eF
       cases he
       exact iC b db h c env a (.exit id') _ _ _ hb h2 hR hE fun a' w' cX=>by
        show Exit.inBlock id Q (.exit id') a' w'
        simp only[Exit.inBlock,eF,if_true]
        exact hQ a' w' cX
      ·rename_i eF
       cases he
       exact iC b db h c env a (.exit id') _ _ _ hb h2 hR hE fun a' w' cX=>by
        show Exit.inBlock id Q (.exit id') a' w'
        simp only[Exit.inBlock,eF,if_false]
        exact hQ a' w' cX
     ·rename_i cS
      refine iC b db h c env a e aU h' _ hb he hR hE fun a' w' cX=>?_
      have:=hQ a' w' cX
      cases e with
      | normal=>exact this
      | exit id'=>exact absurd he (cS id' aU h')
      | ret=>exact this
    ·cases sU
   ·rename_i b
    split at sU
    ·rename_i _ db hb
     cases sU
     refine wp_loop_rounds (n+1) ?_
     rw[rounds_succ]
     simp only[dB]at he
     split at he
     ·rename_i env1 h1 h2
      refine iC b db h c env a .normal env1 h1 _ hb h2 hR hE fun a' w' cX=>?_
      obtain⟨ρ',k1,k2,k3⟩:=cX
      show Code.rounds P b Q n a' w'
      exact iL b db h1 (c.next w' ρ' h1) env1 a' e aU h' Q hb he k1 k3 fun a2 w2 Fk=>hQ _ _ (Fk.trans k2)
     ·rename_i cS
      refine iC b db h c env a e aU h' _ hb he hR hE fun a' w' cX=>?_
      have:=hQ a' w' cX
      cases e with
      | normal=>exact absurd he (cS aU h')
      | exit id=>exact this
      | ret=>exact this
    ·cases sU
   ·cases sU
    simp only[dB]at he
    cases he
    exact wp_exit (hQ _ _ ⟨c.ρ,by rw[hR.same];exact⟨hR,.refl c,hE⟩⟩)
   ·cases sU
    simp only[dB]at he
    cases he
    exact wp_ret (hQ _ _ ⟨c.ρ,by rw[hR.same];exact⟨hR,.refl c,hE⟩⟩)
   ·rename_i id ops draw
    cases draw with
    | false =>
     simp only[fC,Bool.false_eq_true,if_false]at sU
     split at sU
     ·rename_i ds Cb
      cases sU
      simp only[dB]at he
      split at he
      ·rename_i env1 h1 gO
       cases he
       exact wp_region_list (by
        have:=vE gQ (ops:=ops.toList) (Q:=Q) ops.toList ds h c env a _ _ Cb gO hR hE hQ
        simpa using this)
      ·cases he
     ·cases sU
    | true =>
     have hdc:∃ ds,dc=.draw ds:=by
      obtain⟨bS,bs,e,_⟩:=eK sU
      exact⟨_,e⟩
     obtain⟨ds,rfl⟩:=hdc
     simp only[dB]at he
     split at he
     ·rename_i env1 h1 gO
      cases he
      exact B0 G.mixed sU Ft gQ gO hR hE hQ
     ·cases he
   ·cases sU
  ·intro code dc h c env a e aU h' Q sU he hR hE hQ
   rw[rounds_succ]
   simp only[dB]at he
   split at he
   ·rename_i env1 h1 h2
    refine iC code dc h c env a .normal env1 h1 _ sU h2 hR hE fun a' w' cX=>?_
    obtain⟨ρ',k1,k2,k3⟩:=cX
    show Code.rounds P code Q n a' w'
    exact iL code dc h1 (c.next w' ρ' h1) env1 a' e aU h' Q sU he k1 k3 fun a2 w2 Fk=>hQ _ _ (Fk.trans k2)
   ·rename_i cS
    refine iC code dc h c env a e aU h' _ sU he hR hE fun a' w' cX=>?_
    have:=hQ a' w' cX
    cases e with
    | normal=>exact absurd he (cS aU h')
    | exit id=>exact this
    | ret=>exact this
theorem Gt(G:Je P D)(n:Nat):vW P D n∧Lg P D n:=Jb G n n (Nat.le_refl _)
theorem Gv(G:Je P D)(n:Nat):iF P (Un D n):=uI G (Gt G n).1
end
end Go.Dm
/-
Part 28 of "Dm": a call of a function uW arguments from outside; the table of the functions.
-/
namespace Go.Dm
open Go.RowKit
def iH:aA:={objs:=[],n:=0,lim:=0}
def Iu(w:World)(τ:Nat→Value:=fun _=>undef):Ctx:=⟨w,fun _=>none,fun _=>False,fun _=>False,fun _=>False,τ⟩
theorem Aw(id:Nat):iH.get id=none:=by simp[aA.get,iH]
def Ve(w:World):Prop:=∀b v,Oj=some (b,v)→b<w.heap.size∧w.cell? ⟨b,0,none⟩=some v
theorem VW(w:World)(hg:Ve w)(τ:Nat→Value:=fun _=>undef):Rel iH (Iu w τ) :=
 ⟨rfl,Nat.le_refl _,fun id h=>absurd rfl h,fun id o h=>(by rw[Aw]at h;cases h),fun i j oi oj b x y hi=>(by rw[Aw]at hi;cases hi),fun b=>⟨fun h=>h.elim,fun h=>by
  rcases h with⟨id,o,x,hg,_⟩|h
  ·rw[Aw]at hg;cases hg
  ·exact h.elim⟩,fun b h=>h.elim,fun b h=>h.elim,fun b h=>h.elim,fun b v hv=>⟨(hg b v hv).1,fun h=>h,(hg b v hv).2⟩⟩
def HZ(W w':World):Prop:=W.keptBut w' (fun _=>False)∧(∀a,a.block<W.heap.size→w'.frozen? a=W.frozen? a)∧W.heap.size≤w'.heap.size
theorem HZ.frame{W w':World}(h:HZ W w')(may:MemPlace→Prop):W.keptBut w' may:=World.keptBut_mono (fun _ f=>f.elim) h.1
theorem Te{w:World}{τ:Nat→Value}{c:Ctx}(h:bK (Iu w τ) c):HZ w c.w:=by
 refine⟨⟨h.quiet.os,h.quiet.out,fun i hi=>?_⟩,h.quiet.froz,h.size⟩
 have:=(World.keptBut_refl w (fun _=>False)).2.2 i hi
 rw[h.frame i hi (fun h=>h)]
 exact this
open Go.ChangeShapes Go.WideShapes in
theorem U4{H:Type}{enc:TypeId×Value→H}{P:Program}{f:Func}{s:ChangeSpec}{nD fresh handsOn again:Bool}{W W':World}{args:Array Value}{v:Value}{ds gs:List (DataW H)}{before pa pv:List MemPlace}
  (hW:DataW.Whole enc P f.params.toList s.vars nD W args.toList ds gs before)
  (hres:∀(b:Nat) (sp:Nat→Bool) (hd:Bool),DataW.TrodAll enc P W' b sp hd f.resultTypes.toList (v.resultList f.resultTypes.size) (s.fn H (ds++gs)).results [])
  (hargs:∀sp:Nat→Bool,(∀p∈before,sp p.block=true)→DataW.TrodAll enc P W' 0 sp true f.params.toList args.toList (s.fn H (ds++gs)).args pa)
  (hvars:∀sp:Nat→Bool,(∀p∈before,sp p.block=true)→DataW.TrodVars enc P W' sp s.vars (s.fn H (ds++gs)).vars pv)
  (X7:before=pa++pv) (hk:W.keptBut W' (·∈before)) (hfz:∀a,a.block<W.heap.size→W'.frozen? a=W.frozen? a)
  (hok:∀(j:Nat) (t:TypeId) (r:Value),f.resultTypes[j]?=some t→(v.resultList f.resultTypes.size)[j]?=some r→Value.okWide P W' .any 0 t r) :
  s.post enc P f nD fresh handsOn again W args v W':=by
 have hold:∀p∈before,(fun b=>decide (b<W.heap.size)) p.block=true:=fun p hp=>by simpa using hW.lt p hp
 have aZ:=hW.lt
 refine⟨ds,gs,before,[],pa,pv,hW,hres _ _ _,hargs _ hold,hvars _ hold,World.keptBut_mono (fun p hp=>⟨hp,?_⟩) hk,fun _=>?_⟩
 ·rw[X7,List.mem_append]at hp
  exact Or.inr hp
 ·obtain⟨_,_,_,_,_,hz,hn⟩:=hW
  refine⟨hok,_,_,([]++pa)++pv,⟨[]++pa,pv,trodAll_append (hargs _ (fun _ _=>rfl)) (hres _ _ _),hvars _ (fun _ _=>rfl),rfl,?_,?_⟩,?_⟩
  ·intro b off hp
   rw[hfz _ (aZ (.cell b off) (by rw[X7];simpa using hp))]
   exact hz b off (by rw[X7];simpa using hp)
  ·intro ha
   have:=hn ha
   rw[X7]at this
   simpa using this
  ·intro p hp _
   rw[X7]
   simpa using hp
def Co(P:Program)(tab:List (Nat×aK)):Prop:=∀x,x∈tab→∃ fn,P.funcs[x.1]?=some fn∧aD P fn x.2.mode=some x.2
theorem Co.nil{P:Program}:Co P []:=fun x hx=>by cases hx
theorem Co.cons{P:Program}{f:Nat}{df:aK}{fn:Func}{tab:List (Nat×aK)}(h1:P.funcs[f]?=some fn)(h2:aD P fn df.mode=some df)(h:Co P tab):Co P ((f,df)::tab):=fun x hx=>by
 rcases List.mem_cons.1 hx with rfl|hx
 ·exact⟨fn,h1,h2⟩
 ·exact h x hx
def J9:List (Nat×aK)→Nat→Option aK
 | [],_=>none
 | (k,d)::r,f=>if Nat.beq k f then some d else J9 r f
theorem W6{tab:List (Nat×aK)}{f:Nat}{d:aK}(h:J9 tab f=some d):(f,d)∈tab:=by
 induction tab with
 | nil=>cases h
 | cons x r ih =>
  obtain⟨k,d'⟩:=x
  simp only[J9]at h
  split at h
  ·rename_i he
   cases h
   rw[Nat.eq_of_beq_eq_true he]
   exact List.mem_cons_self ..
  ·exact List.mem_cons_of_mem _ (ih h)
end Go.Dm
/-
Part 30 of "Dm": what stands in the place of functions uW a body; tables with hooks.
-/
namespace Go.Dm
def pC(P:Program)(f:Nat)(hk:qK):Prop :=
 (∀args h d h' c vals,hk h args=some (d,h')→Rel h c→VRs c args vals→Hf P f vals.toArray h c h' d)∧∀h args v h',h.lim≤h.n→hk h args=some (v,h')→dT h h'
def dM:qK:=fun h args =>
 match args with
 | [.sl i1 s1 _ _,.sl i2 s2 _ _] =>
  match h.get i1,h.get i2 with
  | some (.arr _ z1 _ _),some (.arr _ z2 xs _)=>if i1≠i2∧s1=z1∧s2=z2∧xs.length≠0 then some (.bool false,h)else none
  | _,_=>none
 | _=>none
theorem pP {P : Program} {f : Nat} {fn : Func} {tS tR e : TypeId} (hf : P.funcs[f]? = some fn) (Fp : (fn.name == "runtime.NumGoroutine") = false) (hb : fn.body.isNone = true) (hn : Extern.findNext fn = none)
  (he:Extern.find fn=some (Extern.SlicesOverlaps.overlaps #[tS,tS] #[tR])) (ht:P.underlying tS=some (.slice e)) (hi:(P.info? e).isSome=true):pC P f dM:=by
 obtain⟨i,hi⟩:=Option.isSome_iff_exists.1 hi
 refine⟨fun args h d h' c vals hs hR hv=>?_,fun h args v h' _ hs=>?_⟩
 ·unfold dM at hs
  split at hs
  ·rename_i i1 s1 o1 l1 i2 s2 o2 l2
   split at hs
   ·rename_i e1 z1 x1 c1 e2 z2 x2 c2 g1 g2
    split at hs
    ·rename_i bU
     obtain⟨cS,hs1,hs2,hx⟩:=bU
     cases hs
     have hl:=hv.1
     obtain⟨v1,v2,rfl⟩:∃ v1 v2,vals=[v1,v2]:=by
      cases vals with
      | nil=>simp at hl
      | cons a r=>cases r with
       | nil=>simp at hl
       | cons b r=>cases r with
        | nil=>exact⟨a,b,rfl⟩
        | cons c r=>simp at hl
     have w1:VR c (.sl i1 s1 o1 l1) v1:=hv.2 0 (by simp) (by simp)
     have w2:VR c (.sl i2 s2 o2 l2) v2:=hv.2 1 (by simp) (by simp)
     obtain⟨b1,base1,cap1,co1,n1,ty1,e1',r1,_⟩:=w1.sl_inv
     obtain⟨b2,base2,cap2,co2,n2,ty2,e2',r2,_⟩:=w2.sl_inv
     obtain⟨cur1,m1,p1,p2,p3,p4,p5,p6⟩:=hR.arr g1 r1
     obtain⟨cur2,m2,q1,q2,q3,q4,q5,q6⟩:=hR.arr g2 r2
     have hbne:b1≠b2:=fun eb=>cS (hR.inj i1 i2 _ _ b1 base1 base2 g1 g2 rfl rfl r1 (eb ▸ r2))
     have Pl:∀a:Addr,a.block=b1→c.w.frozen? a=false:=fun a ha=>pZ (ob:=.cells cur1 e1 (0,0)) (by rw[ha];exact p1) rfl
     refine .inl ⟨.bool false,c.w,?_,kC.pure hR (.bool false)⟩
     rw[run_callFunc_extern hf Fp hb hn he]
     have gO:=Lib.run_overlaps_apart (P:=P) c.w tS tR e ht i.size (fun w=>by simp[sizeOf,typeInfo,hi]) ⟨b1,co1,none⟩ ⟨b2,co2,none⟩ l1 cap1 l2 cap2 hbne e1 e2 cur1.size cur2.size (dL p1) (dL q1)
      (by
       have:0<m2*z2:=Nat.mul_pos (by omega) q2
       omega) (Pl _ rfl) (Pl _ rfl)
     rw[e1',e2',gO]
     rfl
    ·cases hs
   ·cases hs
  ·cases hs
 ·unfold dM at hs
  split at hs
  ·split at hs
   ·split at hs
    ·cases hs;exact .refl _
    ·cases hs
   ·cases hs
  ·cases hs
def qA(P:Program)(hooks:List (Nat×qK)):Prop:=∀x,x∈hooks→pC P x.1 x.2
theorem qA.nil{P:Program}:qA P []:=fun x hx=>by cases hx
theorem qA.cons{P:Program}{f:Nat}{hk:qK}{hooks:List (Nat×qK)}(h1:pC P f hk)(h:qA P hooks):qA P ((f,hk)::hooks):=fun x hx=>by
 rcases List.mem_cons.1 hx with rfl|hx
 ·exact h1
 ·exact h x hx
def K6:List (Nat×qK)→Nat→Option qK
 | [],_=>none
 | (k,d)::r,f=>if Nat.beq k f then some d else K6 r f
theorem Kg{hooks:List (Nat×qK)}{f:Nat}{d:qK}(h:K6 hooks f=some d):(f,d)∈hooks:=by
 induction hooks with
 | nil=>cases h
 | cons x r ih =>
  obtain⟨k,d'⟩:=x
  simp only[K6]at h
  split at h
  ·rename_i he
   cases h
   rw[Nat.eq_of_beq_eq_true he]
   exact List.mem_cons_self ..
  ·exact List.mem_cons_of_mem _ (ih h)
def Nx(tab:List (Nat×aK))(hooks:List (Nat×qK)):bX:={fn:=J9 tab,hook:=K6 hooks}
theorem zC{P:Program}{tab:List (Nat×aK)}{hooks:List (Nat×qK)}(hm:P.follows .mixedOrders=true)(ht:Co P tab)(hh:qA P hooks):Je P (Nx tab hooks) where
 mixed:=hm
 comp:=fun f df h=>ht (f,df) (W6 h)
 hooks:=fun f hk h=>(hh (f,hk) (Kg h)).1
 keep:=fun f hk h=>(hh (f,hk) (Kg h)).2
end Go.Dm
/-
Part 36 of "Dm": what stands in the place of the comparing of two texts (a function uW a body).
-/
namespace Go.Dm
def mP:qK:=fun h args =>
 match args with
 | [.str a,.str b]=>some (.int .i64 (Go.Lib.compareBytes a b),h)
 | _=>none
theorem B6 {P : Program} {f : Nat} {fn : Func} (hf : P.funcs[f]? = some fn) (Fp : (fn.name == "runtime.NumGoroutine") = false) (hb : fn.body.isNone = true) (hn : Extern.findNext fn = none)
  (he:Extern.find fn=some Extern.BytealgCompare.compare):pC P f mP:=by
 refine⟨fun args h d h' c vals hs hR hv=>?_,fun h args v h' _ hs=>?_⟩
 ·unfold mP at hs
  split at hs
  ·rename_i a b
   cases hs
   have hl:=hv.1
   obtain⟨v1,v2,rfl⟩:∃ v1 v2,vals=[v1,v2]:=by
    cases vals with
    | nil=>simp at hl
    | cons a r=>cases r with
     | nil=>simp at hl
     | cons b r=>cases r with
      | nil=>exact⟨a,b,rfl⟩
      | cons c r=>simp at hl
   have w1:VR c (.str a) v1:=hv.2 0 (by simp) (by simp)
   have w2:VR c (.str b) v2:=hv.2 1 (by simp) (by simp)
   have e1:=w1.str_inv
   have e2:=w2.str_inv
   subst e1
   subst e2
   refine .inl ⟨.int .i64 (Go.Lib.compareBytes a b),c.w,?_,kC.pure hR (.int .i64 _)⟩
   rw[run_callFunc_extern hf Fp hb hn he]
   have gO:=Lib.run_compareString (P:=P) ⟨a.toArray⟩ ⟨b.toArray⟩ c.w
   simp only at gO
   rw[gO]
   rfl
  ·cases hs
 ·unfold mP at hs
  split at hs
  ·cases hs;exact .refl _
  ·cases hs
end Go.Dm
/-
Part 32 of "Dm": what stands in the place of slices.Clone: whether a slice uW elements is nil is not asked.
-/
namespace Go.Dm
def bP(ety sz bytes:Nat):qK:=fun h args =>
 match args with
 | [v]=>match elems h sz v with
  | some ys =>
   if ys.isEmpty then some (.nsl,h.push .dead)
   else if ys.length*bytes≤140737488355328∧ys.length≤9223372036854775807 then some (.sl (h.n+1) sz 0 ys.length,(h.push (.arr ety sz [] (some 0))).push (.arr ety sz ys none))
   else none
  | none=>none
 | _=>none
def WI:bX:={fn:=fun _=>none,hook:=fun _=>none}
theorem Yn{P:Program}(hm:P.follows .mixedOrders=true):Je P WI where
 mixed:=hm
 comp:=fun f df h=>by cases h
 hooks:=fun f hk h=>by cases h
 keep:=fun f hk h=>by cases h
theorem Zx{h:aA}{o:DO}{sz:Nat}{v:DV}{ys:List DV}(he:elems h sz v=some ys):elems (h.push o) sz v=some ys:=by
 unfold elems at he ⊢
 split at he
 ·exact he
 ·exact he
 ·split at he
  ·rename_i hg
   rw[aN (cZ hg),hg]
   exact he
  ·cases he
 ·cases he
theorem Rel.pushDead{h:aA}{c:Ctx}(hR:Rel h c):∃ ρ',Rel (h.push .dead) (c.next c.w ρ' (h.push .dead))∧bK c (c.next c.w ρ' (h.push .dead)):=by
 obtain⟨k1,k2⟩:=hR.push .dead c.w c.w.heap.size 0 (Nat.le_refl _) (Nat.le_refl _) (fun _ _=>rfl) (.refl _) (fun _=>trivial)
 exact⟨_,k1,k2⟩
theorem T8{h:aA}{o:DO}:(h.push o).set h.n .dead=h.push .dead:=by
 simp[aA.push,aA.set]
theorem Mq{P:Program}{t e:TypeId}(hu:P.underlying t=some (.slice e))(ad:Option Addr)(n cap:Nat)(k:Nat)(w:World) :
  (Op.equalIn (k+1) t (.slice ad n cap) (.slice none 0 0)).run P w=.ok ad.isNone w:=by
 cases ad<;>simp[Op.equalIn,run_underlying hu]
theorem Rb{P:Program}{t e:TypeId}(hu:P.underlying t=some (.slice e))(ad:Option Addr)(n cap:Nat)(w:World) :
  (Op.equal t (.slice ad n cap) (.slice none 0 0)).run P w=.ok ad.isNone w:=Mq hu ad n cap 9999 w
structure mE(P:Program)(fn:Func)(ety sz bytes:Nat)(z:DV) where
 (r0 r1 r2 r3:Nat) (os0 os2 os3:Array Oper) (o2 o3:Oper) (t u:TypeId) (e:TypeId)
 body:fn.body=some (.seq (.region r0 os0 false) (.seq (.seq (.region r1 #[o2,o3] false) (.cond (.tmp 4) (.seq (.region r2 os2 false) .ret) .skip)) (.seq (.region r3 os3 false) .ret)))
 hA:bR P (.region r0 os0 false)=some (.region [⟨some 2,.move (.c .nsl),none,.write,0,false⟩])
 h2:dA P [o2,o3] .write 0 o2=some ⟨some 3,.move (.t 0),none,.write,0,false⟩
 h3:o3.op=.binOp .eql t (.tmp 3) (.const (.slice none 0 0)) u
 h3d:o3.dst=some 4
 h3g:o3.guard.isNone=true
 hu:P.underlying t=some (.slice e)
 hC:bR P (.seq (.region r2 os2 false) .ret)=some (.seq (.region [⟨some 2,.move (.c .nsl),none,.write,0,false⟩]) .ret)
 hD:bR P (.seq (.region r3 os3 false) .ret)=some (.seq (.region [⟨some 5,.buildSlice ety sz z 0 [],none,.write,0,false⟩,⟨some 6,.move (.t 0),none,.write,0,false⟩,⟨some 7,.append ety sz bytes (.t 5) (.t 6),none,.write,0,false⟩,⟨some 2,.move (.t 7),none,.write,0,false⟩]) .ret)
 nt:fn.ntmps=8
 rs:fn.results=#[.tmp 2]
theorem rG {P : Program} {f : Nat} {fn : Func} {ety sz bytes : Nat} {z : DV} (hm : P.follows .mixedOrders = true) (hf : P.funcs[f]? = some fn) (Fp : (fn.name == "runtime.NumGoroutine") = false) (T : mE P fn ety sz bytes z) :
  pC P f (bP ety sz bytes):=by
 refine⟨fun args h d h' c vals hs hR hv=>?_,fun h args v h' hl hs=>?_⟩
 ·unfold bP at hs
  split at hs
  ·rename_i x
   split at hs
   ·rename_i ys vK
    obtain⟨v,rfl⟩:∃ v,vals=[v]:=by
     have:=hv.1
     cases vals with
     | nil=>simp at this
     | cons a r=>cases r with
      | nil=>exact⟨a,rfl⟩
      | cons b r=>simp at this
    have dF:VR c x v:=hv.2 0 (by simp) (by simp)
    obtain⟨ad,cap,news,e1,e2,e3,e4,e5⟩:=kL hR vK dF
    have Di:=(Gt (Yn hm) 3).1
    have hname' : fn.name ≠ "runtime.NumGoroutine" := by simpa using Fp
    refine .inr ⟨f,#[v],lB hf T.body hname' _ _,?_⟩
    refine calls_of_wp hf T.body ?_
    have hE0:cA c [x,bI,bI,bI,bI,bI,bI,bI] {tmps:=#[v]++Array.replicate (fn.ntmps-1) Go.undef,defers:=[]}:=by
     have:=Kx hv 8
     rw[T.nt]
     exact this
    have hend:∀(aU:Env) (h1:aA) (a':Act) (w':World),St c h1 aU a' w'→∀d1,aU[2]?=some d1→(∀ρ' u,Rel h1 (c.next w' ρ' h1)→bK c (c.next w' ρ' h1)→VR (c.next w' ρ' h1) d1 u→kC h c h' w' d u) →
      (a'.defers=[]∧∃ u,(results fn a'.tmps).run P w'=.ok u w'∧rJ h c h' d (.returned u) w'):=by
     intro aU h1 a' w' cX d1 Y4 hpost
     obtain⟨ρ',k1,k2,k3⟩:=cX
     obtain⟨aZ,hd1'⟩:=List.getElem?_eq_some_iff.1 Y4
     have SA:=k3.val 2 aZ
     rw[hd1']at SA
     refine⟨k3.defers,a'.tmps.getD 2 Go.undef,?_,_,rfl,hpost ρ' _ k1 k2 SA⟩
     rw[Em,T.rs]
     simp[tJ]
    refine wp_seq ?_
    refine Di _ _ h c _ _ .normal ([x,bI,.nsl,bI,bI,bI,bI,bI]) h _ T.hA rfl hR hE0 fun a1 w1 hst1=>?_
    obtain⟨ρ1,k1,k2,k3⟩:=hst1
    show Code.wp P _ _ a1 w1
    refine wp_seq ?_
    refine wp_seq ?_
    refine wp_region_list ?_
    refine wpList_step fun K hK=>?_
    obtain⟨c1,c2,c3,_,_⟩:=hM T.h2
    have ks1:Rel h (c.next w1 ρ1 h):=k1
    rw[if_pos (by
     have:=fU (ops:=[T.o2,T.o3]) (c:=c.next w1 ρ1 h) (b:=true) c2 k3 rfl
     exact this)]
    refine qW (P:=P) (call:=fun _ _ _=>none) (fun f args h d h' c vals hc=>by cases hc) c1 ks1 k3 (r:=x) (h':=h) (by rfl) K _ fun u2 w2 BN=>?_
    obtain⟨ρ2,q1,q2,q3⟩:=BN
    rw[An]at q1 q2 q3
    refine hK _ _ ?_
    have c3':T.o2.dst=some 3:=c3.symm
    have hE2:cA (c.next w2 ρ2 h) [x,bI,.nsl,x,bI,bI,bI,bI] (a1.put T.o2.dst u2):=by
     rw[c3']
     exact(k3.mono q2).put q3 (some 3)
    refine wpList_step fun K2 hK2=>?_
    rw[if_pos (by
     have:=T.h3g
     have:T.o3.guard=none:=by simpa using this
     simp[Region.wanted,this])]
    have hx3:(a1.put T.o2.dst u2).eval (.tmp 3)=u2:=by
     have eB:3<a1.tmps.size:=by rw[k3.size];simp
     rw[c3']
     simp[Act.eval,Act.put,eB]
    obtain⟨ad2,cap2,news2,f1,f2,f3,f4,f5⟩:=kL q1 vK q3
    have BQ:(execOp (a1.put T.o2.dst u2).eval T.o3).run P w2=.ok (.value (.bool ad2.isNone)) w2:=by
     have hc4:(a1.put T.o2.dst u2).eval (.const (.slice none 0 0))=.slice none 0 0:=rfl
     have hg:(eqGuard .eql T.t (.tmp 3) (.const (.slice none 0 0)) (.slice ad2 ys.length cap2) (.slice none 0 0)).run P w2=.ok () w2:=by
      unfold eqGuard;simp
     have hb:(binOp .eql T.t (.slice ad2 ys.length cap2) (.slice none 0 0)).run P w2=.ok (.bool ad2.isNone) w2:=by
      simp[binOp,Rb T.hu]
     simp[execOp,T.h3,hx3.trans f1,hc4,hg,hb]
    have ho3:NJ P T.o3 (a1.put T.o2.dst u2) h (c.next w2 ρ2 h) h (.bool ad2.isNone):=by
     intro K Q hK
     unfold Oper.wp
     rw[show(c.next w2 ρ2 h).w=w2 from rfl,BQ]
     exact hK _ w2 (kC.pure q1 (.bool _))
    refine ho3 K2 _ fun u3 w3 hp3=>?_
    obtain⟨ρ3,p1,p2,p3⟩:=hp3
    rw[An]at p1 p2 p3
    refine hK2 _ _ ?_
    have hE3:cA (c.next w3 ρ3 h) [x,bI,.nsl,x,.bool ad2.isNone,bI,bI,bI] ((a1.put T.o2.dst u2).put T.o3.dst u3):=by
     rw[T.h3d]
     exact(hE2.mono p2).put p3 (some 4)
    have oJ:bK c (c.next w3 ρ3 h):=(k2.trans q2).trans p2
    have ht4:((a1.put T.o2.dst u2).put T.o3.dst u3).eval (.tmp 4)=.bool ad2.isNone:=by
     have:=hE3.val 4 (by simp)
     have:=this.bool_inv
     simpa[Act.eval]using this
    refine wpList_nil ?_
    show Code.wp P _ _ _ w3
    cases had:ad2 with
    | none =>
     rw[had]at ht4
     refine wp_cond_true ht4 ?_
     refine Di _ _ h (c.next w3 ρ3 h) _ _ .ret ([x,bI,.nsl,x,.bool ad2.isNone,bI,bI,bI]) h _ T.hC (by rfl) p1 hE3 fun a4 w4 Zf=>?_
     have hst4':St c h [x,bI,.nsl,x,.bool ad2.isNone,bI,bI,bI] a4 w4:=Zf.trans oJ
     have hy:ys=[]:=f4 had
     rw[if_pos (by rw[hy];rfl)]at hs
     cases hs
     refine hend _ h a4 w4 hst4' .nsl rfl fun ρ' u g1 g2 g3=>?_
     obtain⟨ρ'',m1,m2⟩:=g1.pushDead
     exact⟨ρ'',m1,g2.trans m2,g3.mono m2⟩
    | some adr =>
     rw[had]at ht4
     refine wp_cond_false ht4 ?_
     refine wp_skip ?_
     show Code.wp P _ _ _ w3
     have nJ:=Zx (o:=.arr ety sz [] (some 0)) vK
     by_cases hy:ys.isEmpty=true
     ·rw[if_pos hy]at hs
      cases hs
      have hyn:ys=[]:=by simpa using hy
      refine Di _ _ h (c.next w3 ρ3 h) _ _ .ret ([x,bI,.sl h.n sz 0 0,x,.bool ad2.isNone,.sl h.n sz 0 0,x,.sl h.n sz 0 0]) (h.push (.arr ety sz [] (some 0))) _ T.hD
       (by simp[dB,eP,fV,bE,aB,Opd.eval,Dm.put,cV,nJ,bB,hyn]) p1 hE3 fun a4 w4 Zf=>?_
      have hst4':=Zf.trans oJ
      refine hend _ _ a4 w4 hst4' (.sl h.n sz 0 0) rfl fun ρ' u g1 g2 g3=>?_
      obtain⟨b,base,fA,gG,nn,mO,rfl,hρ,dW,xF,zG,Cv⟩:=g3.sl_inv
      have hgn:(h.push (.arr ety sz [] (some 0))).get h.n=some (.arr ety sz [] (some 0)):=cW
      obtain⟨cur,m,g4,g5,g6,g7,g8,g9⟩:=g1.arr hgn hρ
      rw[dL g4]at dW
      cases dW
      have L4:m=0:=by have:=(g8 0 rfl).1;omega
      have gP:fA=0:=by
       have:fA*sz=0:=by rw[L4]at g6;omega
       rcases Nat.mul_eq_zero.1 this with e|e
       ·exact e
       ·omega
      subst gP
      obtain⟨m1,m2⟩:=g1.kill hgn
      rw[T8]at m1 m2
      exact⟨ρ',m1,g2.trans m2,.nsl _⟩
     ·rw[if_neg hy]at hs
      split at hs
      ·rename_i hb
       cases hs
       have hyp:¬ys.length=0:=fun e=>hy (by simpa using List.eq_nil_of_length_eq_zero e)
       have hyf:ys.isEmpty=false:=by simpa using hy
       have hgn:(h.push (.arr ety sz [] (some 0))).get h.n=some (.arr ety sz [] (some 0)):=cW
       refine Di _ _ h (c.next w3 ρ3 h) _ _ .ret ([x,bI,.sl (h.n+1) sz 0 ys.length,x,.bool ad2.isNone,.sl h.n sz 0 0,x,.sl (h.n+1) sz 0 ys.length]) ((h.push (.arr ety sz [] (some 0))).push (.arr ety sz ys none)) _ T.hD
        (by
         have hap:bB (h.push (.arr ety sz [] (some 0))) ety sz bytes (.sl h.n sz 0 0) ys=some (.sl (h.n+1) sz 0 ys.length,(h.push (.arr ety sz [] (some 0))).push (.arr ety sz ys none)):=by
          simp only[bB,hyf,Bool.false_eq_true,if_false,hgn]
          rw[if_pos (by simpa using hb),if_neg (show ¬0+(0+ys.length)≤([]:List DV).length from fun cD=>hyp (by have:([]:List DV).length=0:=rfl;omega))]
          simp[Ao]
         simp[dB,eP,fV,bE,aB,Opd.eval,Dm.put,cV,nJ,hap]) p1 hE3 fun a4 w4 Zf=>?_
       have hst4':=Zf.trans oJ
       refine hend _ _ a4 w4 hst4' (.sl (h.n+1) sz 0 ys.length) rfl fun ρ' u g1 g2 g3=>?_
       exact⟨ρ',g1,g2,g3⟩
      ·cases hs
   ·cases hs
  ·cases hs
 ·unfold bP at hs
  split at hs
  ·split at hs
   ·split at hs
    ·cases hs;exact .push hl _
    ·split at hs
     ·cases hs;exact(dT.push hl _).trans (.push (Nat.le_succ_of_le hl) _)
     ·cases hs
   ·cases hs
  ·cases hs
end Go.Dm
/-
Part 33 of "Dm": what stands in the place of errors.As, at the two targets that occur: an error number, a fault.
-/
namespace Go.Dm
open Go.RowKit
def DK:DV→Option DV
 | .ptr id sz idx off=>some (.ptr id sz idx (off+2))
 | .iptr l cs off=>some (.iptr l cs (off+2))
 | _=>none
def M4(tE tF:TypeId)(h:aA):Nat→DV→Option (Option DV)
 | 0,_=>none
 | n+1,d=>match d with
  | .iface t x =>
   if t=tE then(match x with|.int .i64 k=>some (some (.int .i64 k))|_=>none)
   else if t=tF then
    match DK x with
    | some y=>match jI h none y with
     | some .nili=>some none
     | some d'=>M4 tE tF h n d'
     | none=>none
    | none=>none
   else none
  | _=>none
def u4(tE tF tPE tPF:TypeId):qK:=fun h args =>
 match args with
 | [.nili,_]=>some (.bool false,h)
 | [.iface t x,.iface t' (.ptr id sz idx off)] =>
  if t'=tPE then
   match M4 tE tF h 50 (.iface t x)with
   | some (some k)=>match jW h 1 (.ptr id sz idx off) k with|some h'=>some (.bool true,h')|none=>none
   | some none=>if(jW h 1 (.ptr id sz idx off) (.int .i64 0)).isSome then some (.bool false,h)else none
   | none=>none
  else if t'=tPF then
   if t=tF then
    match DK x with
    | some _=>match jW h 1 (.ptr id sz idx off) x with|some h'=>some (.bool true,h')|none=>none
    | none=>none
   else if t=tE then(match x with|.int .i64 _=>some (.bool false,h)|_=>none)
   else none
  else none
 | _=>none
inductive uT(tE tF:TypeId)(w:World):Value→Option Int→Nat→Prop
 | hit (n:Int):uT tE tF w (.iface tE (.int .i64 n)) (some n) 0
 | step (b o:Nat) (v:Value) (r:Option Int) (n:Nat):w.cell? ⟨b,o+2,none⟩=some v→uT tE tF w v r n→uT tE tF w (.iface tF (.pointer (some ⟨b,o,none⟩))) r (n+1)
 | stop (b o:Nat):w.cell? ⟨b,o+2,none⟩=some .nilIface→uT tE tF w (.iface tF (.pointer (some ⟨b,o,none⟩))) none 0
structure v7(P:Program)(f:Nat)(fn:Func)(tE tF tPE tPF:TypeId):Prop where
 hf:P.funcs[f]?=some fn
 hb:fn.body.isSome=true
 hn : (fn.name == "runtime.NumGoroutine") = false
 nil:∀(t:Value) (w:World),Calls P f #[.nilIface,t] w fun e w'=>e=.returned (.bool false)∧w'=w
 num:∀(v:Value) (r:Option Int) (n:Nat) (p:Addr) (old:Value) (w:World),Ve w→uT tE tF w v r n→w.cell? p=some old→w.frozen? p=false →
  Calls P f #[v,.iface tPE (.pointer (some p))] w fun e w'=>e=.returned (.bool r.isSome)∧∃ w1,(Below w.heap.size w w1∧(∀a,w1.frozen? a=w.frozen? a)∧w.drawn≤w1.drawn)∧w'=match r with|some n=>w1.setCell p (.int .i64 n)|none=>w1
 hit:∀(q p:Addr) (old:Value) (w:World),Ve w→w.cell? p=some old→w.frozen? p=false →
  Calls P f #[.iface tF (.pointer (some q)),.iface tPF (.pointer (some p))] w fun e w'=>e=.returned (.bool true)∧∃ w1,(Below w.heap.size w w1∧(∀a,w1.frozen? a=w.frozen? a)∧w.drawn≤w1.drawn)∧w'=w1.setCell p (.pointer (some q))
 miss:∀(n:Int) (p:Addr) (w:World),Ve w →
  Calls P f #[.iface tE (.int .i64 n),.iface tPF (.pointer (some p))] w fun e w'=>e=.returned (.bool false)∧Below w.heap.size w w'∧(∀a,w'.frozen? a=w.frozen? a)∧w.drawn≤w'.drawn
theorem Rel.grow{h:aA}{c:Ctx}(hR:Rel h c){w1:World}(hb:Below c.w.heap.size c.w w1)(hf:∀a,a.block<c.w.heap.size→w1.frozen? a=c.w.frozen? a)(hd:c.w.drawn≤w1.drawn):Rel h (c.next w1 c.ρ h)∧bK c (c.next w1 c.ρ h):=by
 have hO:∀b,(iA h c.ρ b∨c.E b)↔c.O b:=fun b=>(hR.own b).symm
 have lM:∀b,b<c.w.heap.size→w1.heap[b]?=c.w.heap[b]?:=hb.block
 have oJ:bK c (c.next w1 c.ρ h) :=
  ⟨fun _ _ hp=>hp,hb.size,fun b Oh _=>lM b Oh,fun b Oh=>.inl ((hO b).1 Oh),fun b e n hs=>by
   have:=Ef hs
   simp only[World.shape?,Ctx.next]at hs ⊢
   rw[lM b this];exact hs,fun _ hx=>hx,fun b Oh hE=>⟨hE,lM b Oh⟩,⟨hb.os,hb.output,hb.tape,hd,hb.size,hf⟩,rfl⟩
 exact⟨⟨hR.len,hR.lim,hR.dom,fun id o hg=>(hR.obj id o hg).mono oJ (fun ha b x hr=>lM b (hR.block_lt hg ha hr)),hR.inj,fun _=>Iff.rfl,fun b Oh=>hR.notX b ((hO b).1 Oh),fun b Oh=>Nat.lt_of_lt_of_le (hR.old b Oh) hb.size,
  fun b Oh=>⟨Nat.lt_of_lt_of_le (hR.pend b Oh).1 hb.size,(hR.pend b Oh).2⟩,hR.glob.mono oJ⟩,oJ⟩
end Go.Dm
/-
Part 41 of "Dm": slices.Clone whose row is written no more.
-/
namespace Go.Dm
def nG(ety sz bytes:Nat):qK:=fun h args =>
 match bP ety sz bytes h args with
 | some (v,h1)=>gT h1 v
 | none=>none
theorem kC.frozen{h h1 h2:aA}{c:Ctx}{w:World}{d d':DV}{v:Value}(hp:kC h c h1 w d v)(hf:gT h1 d=some (d',h2)):kC h c h2 w d' v:=by
 obtain⟨ρ,k1,k2,k3⟩:=hp
 obtain⟨⟨q1,q2⟩,q3⟩:=sF k1 k3 hf
 exact⟨ρ,q1,k2.trans q2,q3⟩
theorem RQ{P:Program}{f:Nat}{ety sz bytes:Nat}(hk:pC P f (bP ety sz bytes)):pC P f (nG ety sz bytes):=by
 refine⟨fun args h d h' c vals hs hR hv=>?_,fun h args v h' hl hs=>?_⟩
 ·unfold nG at hs
  split at hs
  ·rename_i v h1 hc
   rcases hk.1 args h v h1 c vals hc hR hv with⟨u,w',k1,k2⟩|⟨f',vals',k1,k2⟩
   ·exact .inl ⟨u,w',k1,k2.frozen hs⟩
   ·exact .inr ⟨f',vals',k1,k2.mono fun e w hp=>by
     obtain⟨u,rfl,hp⟩:=hp
     exact⟨u,rfl,hp.frozen hs⟩⟩
  ·cases hs
 ·unfold nG at hs
  split at hs
  ·rename_i u h1 hc
   exact(hk.2 h args u h1 hl hc).trans (sG hs)
  ·cases hs
end Go.Dm
/-
Part 42 of "Dm": what stands in the place of slices.Sort of ints and of slices.SortFunc of pairs of ints: the row sorted.
-/
namespace Go.Dm
def Cs{α:Type}(lt:α→α→Bool)(x:α):List α→List α
 | []=>[x]
 | y::r=>if lt y x=true then y::Cs lt x r else x::y::r
def fY{α:Type}(lt:α→α→Bool)(l:List α):List α:=l.foldr (Cs lt) []
def ltZ(a b:Int):Bool:=decide (a<b)
def ltP(a b:Int×Int):Bool:=decide (a.1<b.1∨(a.1=b.1∧a.2<b.2))
def unI:DV→Option Int
 | .int .i64 n=>some n
 | _=>none
def unP:DV→Option (Int×Int)
 | .agg [.int .i64 a,.int .i64 b]=>some (a,b)
 | _=>none
def mkI(n:Int):DV:=.int .i64 n
def mkP(p:Int×Int):DV:=.agg [.int .i64 p.1,.int .i64 p.2]
def pL{α:Type}(sz:Nat)(un:DV→Option α)(mk:α→DV)(lt:α→α→Bool)(h:aA):DV→Option (DV×aA)
 | .nsl=>some (.tup [],h)
 | .sl id dK off len=>match h.get id with
  | some (.arr ety jK xs cap) =>
   if sz=dK∧sz=jK∧h.lim≤id∧off+len≤xs.length∧len<4611686018427387904 then
    match((xs.drop off).take len).mapM un with
    | some zs=>some (.tup [],h.set id (.arr ety sz (cF xs ((fY lt zs).map mk) off) cap))
    | none=>none
   else none
  | _=>none
 | _=>none
def qR:qK:=fun h args=>match args with
 | [v]=>pL 1 unI mkI ltZ h v
 | _=>none
def nP(g:Nat):qK:=fun h args=>match args with
 | [v,.func g' []]=>if Nat.beq g' g=true then pL 2 unP mkP ltP h v else none
 | _=>none
end Go.Dm
/-
Part 43 of "Dm": a row sorted is what the library's sorting leaves.
-/
namespace Go.Dm
structure Hc(P:Program)(f:FuncId)(k:Nat)(extra:List Value){α:Type}(enc:α→List Value)(lt:α→α→Bool):Prop where
 enter:∀args w,(callFunc f args).run P w=.ok (.enter f args) w
 none:∀(a:Option Addr) (cap:Nat) (w:World),Calls P f (.slice a 0 cap::extra).toArray w fun e w'=>e=.returned (.tuple #[])∧w'=w
 row:∀(b co cap:Nat) (zs:List α) (w:World),zs.length<4611686018427387904→b<w.heap.size→(∀b' v,Oj=some (b',v)→b'≠b∧b'<w.heap.size∧w.cell? ⟨b',0,Option.none⟩=some v) →
  (∀i (hi:i<zs.length) j,j<k→w.cell? ⟨b,co+i*k+j,Option.none⟩=(enc zs[i])[j]?∧w.frozen? ⟨b,co+i*k+j,Option.none⟩=false) →
  Calls P f (.slice (some ⟨b,co,Option.none⟩) zs.length cap::extra).toArray w fun e w'=>e=.returned (.tuple #[])∧∃ n os,w'=Sort.grow (Sort.putRow id (Sort.ahead w n) b co ((fY lt zs).flatMap enc).toArray) os
theorem Im{h:aA}{id:Nat}{o:DO}(hg:h.get id=some o):h.set id o=h:=by
 have aZ:=cZ hg
 unfold aA.get at hg
 rw[if_pos aZ]at hg
 unfold aA.set
 have:h.objs.set (h.n-1-id) o=h.objs:=by
  apply List.ext_getElem?
  intro j
  rw[List.getElem?_set]
  by_cases e:h.n-1-id=j
  ·subst e
   rw[if_pos rfl]
   split
   ·exact hg.symm
   ·rename_i hh;rw[List.getElem?_eq_none (by omega)]
  ·rw[if_neg e]
 rw[this]
theorem Ca{α:Type}{un:DV→Option α}:∀{l:List DV} {zs:List α},l.mapM un=some zs→zs.length=l.length∧∀i (h1:i<l.length) (h2:i<zs.length),un l[i]=some zs[i]
 | [],zs,h=>by
  simp at h
  subst h
  exact⟨rfl,fun i h1=>absurd h1 (Nat.not_lt_zero _)⟩
 | d::l,zs,h=>by
  rw[List.mapM_cons]at h
  cases h1:un d with
  | none=>simp[h1]at h
  | some z =>
   cases h2:l.mapM un with
   | none=>simp[h1,h2]at h
   | some r =>
    simp[h1,h2]at h
    subst h
    obtain⟨e1,e2⟩:=Ca h2
    refine⟨by simp[e1],fun i a1 a2=>?_⟩
    cases i with
    | zero=>exact h1
    | succ i=>exact e2 i (by simpa using a1) (by simpa using a2)
theorem T5{w:World}{b p:Nat}{cur:Array Value}{ety:TypeId}(g1:w.heap[b]?=some (.cells cur ety (0,0)))(vs:List Value)(hp:p+vs.length≤cur.size) :
  (Sort.putRow id w b p vs.toArray).heap=(w.setRow b (spl cur p vs)).heap:=by
 apply Array.ext_getElem?
 intro q
 by_cases hq:q=b
 ·subst hq
  rw[setRow_heap w q cur _ ety (0,0) g1]
  simp only[Sort.putRow,Sort.mapBlock,Array.getElem?_modify,if_true,g1,Option.map_some,Sort.onCells]
  congr 2
  apply Array.ext_getElem?
  intro j
  rw[pK hp]
  simp only[Sort.putCells,Array.getElem?_mapIdx,List.size_toArray]
  by_cases h1:j<p
  ·rw[if_pos h1]
   have:¬(p≤j∧j<p+vs.length):=by omega
   simp[this]
  ·rw[if_neg h1]
   by_cases h2:j<p+vs.length
   ·rw[if_pos h2]
    have h3:p≤j∧j<p+vs.length:=by omega
    have h4:j<cur.size:=by omega
    have h5:j-p<vs.length:=by omega
    simp[h3,h4,h5]
   ·rw[if_neg h2]
    have:¬(p≤j∧j<p+vs.length):=by omega
    simp[this]
 ·rw[setRow_other _ _ _ _ hq]
  simp only[Sort.putRow,Sort.mapBlock,Array.getElem?_modify]
  rw[if_neg (fun e=>hq e.symm)]
theorem pV{α:Type}{enc:α→List Value}{k:Nat}(hk:∀z,(enc z).length=k):∀(zs:List α) (i:Nat) (hi:i<zs.length) (j:Nat),j<k→(zs.flatMap enc)[i*k+j]?=(enc zs[i])[j]?
 | [],i,hi,_,_=>absurd hi (Nat.not_lt_zero _)
 | z::zs,0,_,j,hj=>by
  simp only[List.flatMap_cons,Nat.zero_mul,Nat.zero_add,List.getElem_cons_zero]
  rw[List.getElem?_append_left (by rw[hk];exact hj)]
 | z::zs,i+1,hi,j,hj=>by
  simp only[List.flatMap_cons,List.getElem_cons_succ]
  rw[List.getElem?_append_right (by rw[hk,Nat.add_mul];omega),hk,←pV hk zs i (by simpa using hi) j hj]
  congr 1
  rw[Nat.add_mul];omega
theorem uC{α:Type}{enc:α→List Value}{k:Nat}(hk:∀z,(enc z).length=k)(zs:List α):(zs.flatMap enc).length=zs.length*k:=by
 induction zs with
 | nil=>simp
 | cons z zs ih=>simp only[List.flatMap_cons,List.length_append,hk,ih,List.length_cons,Nat.add_mul];omega
theorem GJ{α:Type}(lt:α→α→Bool)(x:α)(l:List α):(Cs lt x l).length=l.length+1:=by
 induction l with
 | nil=>rfl
 | cons y r ih =>
  simp only[Cs]
  split
  ·simp[ih]
  ·rfl
theorem Za{α:Type}(lt:α→α→Bool)(l:List α):(fY lt l).length=l.length:=by
 unfold fY
 induction l with
 | nil=>rfl
 | cons x r ih=>rw[List.foldr_cons,GJ,ih];rfl
theorem wJ{P:Program}{f:FuncId}{k:Nat}{extra:List Value}{α:Type}{enc:α→List Value}{lt:α→α→Bool}{un:DV→Option α}{mk:α→DV}(C:Hc P f k extra enc lt)(hk:∀z,(enc z).length=k)(h1:∀z,∀v∈enc z,v.oneCell'=true)
  (IB:∀d z,un d=some z→∀(c:Ctx) (j:Nat) (e:DV) (v:Value),(aF k d)[j]?=some e→VR c e v→(enc z)[j]?=some v) (OC:∀z,(aF k (mk z)).length=k∧∀(c:Ctx) (j:Nat) (e:DV),(aF k (mk z))[j]?=some e→∃ u,(enc z)[j]?=some u∧VR c e u)
  {h h':aA} {c:Ctx} {d r:DV} {v:Value} (hR:Rel h c) (hv:VR c d v) (hs:pL k un mk lt h d=some (r,h')):Calls P f (v::extra).toArray c.w (rJ h c h' r):=by
 have unit:∀c:Ctx,VR c (.tup []) (.tuple #[]):=fun c=>VR.tup (c:=c) (ds:=[]) (vs:=[]) rfl (fun i h1=>absurd h1 (Nat.not_lt_zero _))
 unfold pL at hs
 split at hs
 ·cases hs
  obtain⟨a,rfl⟩:=hv.nsl_inv
  refine(C.none a 0 c.w).mono fun e w' ⟨he,hw⟩=>⟨_,he,?_⟩
  rw[hw]
  exact kC.pure hR (unit c)
 ·rename_i id dK off len
  split at hs
  ·rename_i ety jK xs cap hg
   split at hs
   ·rename_i bU
    obtain⟨e1,e2,bH,cD,hbig⟩:=bU
    subst e1;subst e2
    split at hs
    ·rename_i zs hz
     cases hs
     obtain⟨z1,z2⟩:=Ca hz
     have hdl:((xs.drop off).take len).length=len:=by rw[List.length_take,List.length_drop];omega
     rw[hdl]at z1
     obtain⟨b,base,fA,gG,nn,mO,rfl,hρ,dW,xF,zG,Cv⟩:=hv.sl_inv
     obtain⟨cur,mm,g1,g2,g3,g4,g5,g6⟩:=hR.arr hg hρ
     by_cases X9:len=0
     ·subst X9
      have RV:zs=[]:=List.length_eq_zero_iff.1 z1
      subst RV
      have hsp:cF xs ((fY lt ([]:List α)).map mk) off=xs:=by
       apply List.ext_getElem?
       intro q
       rw[Ec (by simp[fY];omega)]
       split
       ·rfl
       ·rw[if_neg (by simp[fY];omega)]
      rw[hsp,Im hg]
      refine(C.none _ fA c.w).mono fun e w' ⟨he,hw⟩=>⟨_,he,?_⟩
      rw[hw]
      exact kC.pure hR (unit c)
     ·have mM:gG=base+off*k:=Cv.elim (fun e=>e) (fun e=>by omega)
      subst mM
      have Oh:b<c.w.heap.size:=(Array.getElem?_eq_some_iff.1 g1).1
      have hcells:∀i (hi:i<zs.length) j,j<k→c.w.cell? ⟨b,base+off*k+i*k+j,none⟩=(enc zs[i])[j]?∧c.w.frozen? ⟨b,base+off*k+i*k+j,none⟩=false:=fun i hi j hj=>by
       refine⟨?_,pZ (ob:=.cells cur ety (0,0)) g1 rfl⟩
       have hxi:off+i<xs.length:=by omega
       have hu:=z2 i (by rw[hdl];omega) hi
       rw[List.getElem_take,List.getElem_drop]at hu
       obtain⟨p1,p2⟩:=g6 (off+i) hxi
       obtain⟨u,q1,q2,q3⟩:=p2 j (by rw[p1];exact hj)
       have q4:=IB _ _ hu c j _ u (List.getElem?_eq_getElem (by rw[p1];exact hj)) q3
       rw[q4]
       have pF:base+off*k+i*k+j=base+(off+i)*k+j:=by rw[Nat.add_mul];omega
       rw[pF,←q1]
       simp[World.cell?,g1]
      have Vi:=Za lt zs
      have eW:iM c k ((fY lt zs).map mk) ((fY lt zs).flatMap enc):=by
       refine⟨by rw[uC hk,List.length_map],fun u hu=>?_,fun i d hd=>?_⟩
       ·obtain⟨z,_,hz⟩:=List.mem_flatMap.1 hu
        exact h1 z u hz
       ·rw[List.getElem?_map]at hd
        obtain⟨z,hz,rfl⟩:=Option.map_eq_some_iff.1 hd
        obtain⟨hi,rfl⟩:=List.getElem?_eq_some_iff.1 hz
        obtain⟨m1,m2⟩:=OC (fY lt zs)[i]
        refine⟨m1,fun j e he=>?_⟩
        obtain⟨u,n1,n2⟩:=m2 c j e he
        have hj:=(List.getElem?_eq_some_iff.1 he).1
        exact⟨u,by rw[pV hk _ i hi j (by omega)];exact n1,n2⟩
      obtain⟨kX,nJ⟩:=mI g6 g3 g4 eW (k:=off) (by rw[List.length_map];omega)
      obtain⟨k1,k2⟩:=hR.write hg hρ g1 g2 g3 (cF xs ((fY lt zs).map mk) off) (qE (by rw[List.length_map];omega)) g4 g5 (base+off*k) _ kX eW.2.1 nJ
      have iR:c.O b:=(hR.own b).2 (.inl ⟨id,_,base,hg,rfl,hρ⟩)
      have hc:=C.row b (base+off*k) fA zs c.w (by omega) Oh (fun b' v hgv=>⟨fun e=>(hR.glob b' v hgv).2.1 (e ▸ iR),(hR.glob b' v hgv).1,(hR.glob b' v hgv).2.2⟩) hcells
      rw[z1]at hc
      refine hc.mono fun e w' ⟨he,n,os,hw⟩=>⟨_,he,?_⟩
      have hheap:=T5 g1 ((fY lt zs).flatMap enc) kX
      generalize hW1:c.w.setRow b (spl cur (base+off*k) ((fY lt zs).flatMap enc))=W1 at *
      have eB:W1.heap.size=c.w.heap.size:=by rw[←hW1];simp[World.setRow]
      have Vh:w'.heap=W1.heap++os:=by
       rw[hw]
       rw[←hheap]
       simp only[Sort.grow,Sort.putRow,Sort.mapBlock,Sort.ahead]
      have hold:∀q,q<W1.heap.size→w'.heap[q]?=W1.heap[q]?:=fun q hq=>by rw[Vh,Array.getElem?_append_left hq]
      have hos:w'.os=W1.os∧w'.tape=W1.tape∧w'.output=W1.output:=by rw[hw,←hW1];exact⟨rfl,rfl,rfl⟩
      obtain⟨q1,q2⟩:=k1.grow (w1:=w') ⟨hos.1,hos.2.1,hos.2.2,by rw[Vh];simp[Ctx.next],hold⟩ (fun a ha=>by
       simp only[World.frozen?,Ctx.next]at ha ⊢
       rw[hold _ ha]) (by rw[hw,←hW1];exact Nat.le_add_right _ _)
      rw[An]at q1 q2
      exact⟨c.ρ,q1,k2.trans q2,unit _⟩
    ·cases hs
   ·cases hs
  ·cases hs
 ·cases hs
theorem wK{k:Nat}{α:Type}{lt:α→α→Bool}{un:DV→Option α}{mk:α→DV}{h h':aA}{d r:DV}(hs:pL k un mk lt h d=some (r,h')):dT h h':=by
 unfold pL at hs
 split at hs
 ·cases hs;exact .refl _
 ·split at hs
  ·split at hs
   ·rename_i ety sz2 xs cap hg bU
    split at hs
    ·cases hs
     exact dT.set hg bU.2.2.1 _
    ·cases hs
   ·cases hs
  ·cases hs
 ·cases hs
def AC(n:Int):List Value:=[.int .i64 n]
def jE(p:Int×Int):List Value:=[.int .i64 p.1,.int .i64 p.2]
theorem Qs{P:Program}{f:FuncId}(C:Hc P f 1 [] AC ltZ):pC P f qR:=by
 refine⟨fun args h d h' c vals hs hR hv=>?_,fun h args v h' _ hs=>?_⟩
 ·unfold qR at hs
  split at hs
  ·rename_i x
   obtain⟨v,rfl⟩:∃ v,vals=[v]:=by
    have:=hv.1
    match vals with
    | [v]=>exact⟨v,rfl⟩
    | []=>simp at this
    | _::_::_=>simp at this
   have hx:VR c x v:=hv.2 0 (by simp) (by simp)
   refine .inr ⟨f,_,C.enter _ _,wJ C (fun _=>rfl) (fun z u hu=>by simp[AC]at hu;subst hu;rfl) (fun d z hd c j e v he hv=>?_) (fun z=>⟨rfl,fun c j e he=>?_⟩) hR hx hs⟩
   ·unfold unI at hd
    split at hd
    ·cases hd
     rcases j with _|j
     ·simp[aF]at he;subst he
      rw[hv.int_inv];rfl
     ·simp[aF]at he
    ·cases hd
   ·rcases j with _|j
    ·simp[aF,mkI]at he;subst he
     exact⟨_,rfl,.int _ _⟩
    ·simp[aF,mkI]at he
  ·cases hs
 ·unfold qR at hs
  split at hs
  ·exact wK hs
  ·cases hs
theorem Ml{P:Program}{f:FuncId}{g:Nat}(C:Hc P f 2 [.func (.func g) #[] #[]] jE ltP):pC P f (nP g):=by
 refine⟨fun args h d h' c vals hs hR hv=>?_,fun h args v h' _ hs=>?_⟩
 ·unfold nP at hs
  split at hs
  ·rename_i x g'
   split at hs
   ·rename_i hgg
    have hgg:=Nat.eq_of_beq_eq_true hgg
    subst hgg
    obtain⟨v,u,rfl⟩:∃ v u,vals=[v,u]:=by
     have:=hv.1
     match vals with
     | [v,u]=>exact⟨v,u,rfl⟩
     | []=>simp at this
     | [_]=>simp at this
     | _::_::_::_=>simp at this
    have hx:VR c x v:=hv.2 0 (by simp) (by simp)
    have hf:VR c (.func g' []) u:=hv.2 1 (by simp) (by simp)
    obtain⟨vs,rfl,hl,_⟩:=hf.func_inv
    have:vs=[]:=List.length_eq_zero_iff.1 hl.symm
    subst this
    refine .inr ⟨f,_,C.enter _ _,wJ C (fun _=>rfl) (fun z u hu=>by simp[jE]at hu;rcases hu with rfl|rfl<;>rfl) (fun d z hd c j e v he hv=>?_) (fun z=>⟨rfl,fun c j e he=>?_⟩) hR hx hs⟩
    ·unfold unP at hd
     split at hd
     ·cases hd
      rcases j with _|_|j
      ·simp[aF]at he;subst he
       rw[hv.int_inv];rfl
      ·simp[aF]at he;subst he
       rw[hv.int_inv];rfl
      ·simp[aF]at he
     ·cases hd
    ·rcases j with _|_|j
     ·simp[aF,mkP]at he;subst he
      exact⟨_,rfl,.int _ _⟩
     ·simp[aF,mkP]at he;subst he
      exact⟨_,rfl,.int _ _⟩
     ·simp[aF,mkP]at he
   ·cases hs
  ·cases hs
 ·unfold nP at hs
  split at hs
  ·split at hs
   ·exact wK hs
   ·cases hs
  ·cases hs
end Go.Dm
/-
Part 1 of "Dw", the machine's runs uW a bound: what a code does if it is given steps enough; the equations of that.
-/
namespace Go.Dm
abbrev uR:=aI→Env→aA→Res
abbrev fE:=Nat→List DV→aA→Option (DV×aA)
def mS(r1 r2:uR):Prop:=∀c env h e aU h',r1 c env h=.ok e aU h'→r2 c env h=.ok e aU h'
def pD(c1 c2:fE):Prop:=∀f args h r,c1 f args h=some r→c2 f args h=some r
theorem mS.refl(r:uR):mS r r:=fun _ _ _ _ _ _ h=>h
theorem mS.trans{a b c:uR}(h:mS a b)(g:mS b c):mS a c:=fun x y z e u v k=>g _ _ _ _ _ _ (h x y z e u v k)
theorem qX{c1 c2:fE}(hc:pD c1 c2){o:DOp}{env:Env}{h:aA}{r:DV×aA}(hs:bE c1 o env h=some r):bE c2 o env h=some r:=by
 cases o
 case call f args =>
  simp only[bE]at hs ⊢
  split at hs
  ·exact hc _ _ _ _ hs
  ·cases hs
 all_goals exact hs
theorem Y3{c1 c2:fE}(hc:pD c1 c2){l:Nat}{o:DOp}{env:Env}{h:aA}{r:DV×aA}(hs:kY c1 l o env h=some r):kY c2 l o env h=some r:=by
 unfold kY at hs ⊢
 split at hs
 ·rename_i v h' h1
  rw[qX hc h1];exact hs
 ·cases hs
theorem Rv{c1 c2:fE}(hc:pD c1 c2){q:Nat}{L:cC}{o:DOp}{env:Env}{h:aA}{r:DV×aA×cC}(hs:kU c1 q L o env h=some r):kU c2 q L o env h=some r:=by
 unfold kU at hs ⊢
 split at hs
 ·split at hs
  ·rename_i h1
   rw[qX hc h1];exact hs
  ·cases hs
 ·cases hs
theorem Cg{c1 c2:fE}(hc:pD c1 c2){l q:Nat}{L:cC}{o:DOp}{env:Env}{h:aA}{r:DV×aA×cC}(hs:cK c1 l q L o env h=some r):cK c2 l q L o env h=some r:=by
 unfold cK at hs ⊢
 split at hs
 ·exact hs
 ·split at hs
  ·exact Rv hc hs
  ·split at hs
   ·rename_i v h' h1
    rw[Y3 hc h1];exact hs
   ·cases hs
theorem uZ{c1 c2:fE}(hc:pD c1 c2):∀(ops:List aJ) {env:Env} {h:aA} {r:Env×aA},eP c1 ops env h=some r→eP c2 ops env h=some r:=by
 intro ops
 induction ops with
 | nil=>intro env h r hs;exact hs
 | cons o ops ih =>
  intro env h r hs
  simp only[eP]at hs ⊢
  split at hs
  ·split at hs
   ·rename_i v h' h1
    rw[qX hc h1];exact ih hs
   ·cases hs
  ·exact ih hs
  ·cases hs
theorem rR{c1 c2:fE}(hc:pD c1 c2):∀(ops:List aJ) {env:Env} {hs:List aA} {L:cC} {r:Env×aA},dH c1 ops env hs L=some r→dH c2 ops env hs L=some r:=by
 intro ops
 induction ops with
 | nil=>intro env h L r hs;exact hs
 | cons o ops ih =>
  intro env hs L r he
  cases hs with
  | nil=>simp[dH]at he
  | cons h hs =>
   simp only[dH]at he ⊢
   split at he
   ·cases he
   ·split at he
    ·split at he
     ·rename_i Pl
      rw[if_pos Pl]
      split at he
      ·split at he
       ·exact ih he
       ·cases he
      ·cases he
     ·cases he
    ·split at he
     ·rename_i v h' h1
      rw[qX hc h1];exact ih he
     ·cases he
    ·split at he
     ·split at he
      ·rename_i v h' L' h1
       rw[Cg hc h1];exact ih he
      ·cases he
     ·cases he
   ·exact ih he
def gS(run:uR)(df:aK)(args:List DV)(h:aA):Option (DV×aA) :=
 match run df.body (args++List.replicate (df.ntmps-args.length) bI) h with
 | .ok (.exit _) _ _=>none
 | .ok _ env h'=>match aV h' env df.results with
  | some v=>some (v,h')
  | none=>none
 | .fail=>none
theorem oT{r1 r2:uR}(hr:mS r1 r2){df:aK}{args:List DV}{h:aA}{r:DV×aA}(hs:gS r1 df args h=some r):gS r2 df args h=some r:=by
 unfold gS at hs ⊢
 split at hs
 ·cases hs
 ·rename_i e env h' cS h1
  rw[hr _ _ _ _ _ _ h1]
  cases e with
  | exit id=>exact absurd rfl (cS id)
  | normal=>exact hs
  | ret=>exact hs
 ·cases hs
def hI(run:uR)(df:aK)(rest:List DV)(id sz off len ety:Nat)(xs:List DV)(h:aA)(e:Nat)(cap:Option Nat):Option (List DV) :=
 nZ h ety sz (gS run df (.sl h.n sz off len::rest) {(h.set id .dead).push (.arr ety sz (xs++List.replicate e .unk) cap)with lim:=h.n})
theorem nQ{r1 r2:uR}(hr:mS r1 r2){df:aK}{rest:List DV}{id sz off len ety:Nat}{xs:List DV}{h:aA}{e:Nat}{cap:Option Nat}{l:List DV}(hs:hI r1 df rest id sz off len ety xs h e cap=some l) :
  hI r2 df rest id sz off len ety xs h e cap=some l:=by
 unfold hI at hs ⊢
 cases hg:gS r1 df (.sl h.n sz off len::rest) {(h.set id .dead).push (.arr ety sz (xs++List.replicate e .unk) cap)with lim:=h.n} with
 | none=>rw[hg]at hs;simp[nZ]at hs
 | some r=>rw[oT hr hg,←hg];exact hs
def jN(run:uR)(df:aK)(rest:List DV)(id sz off len ety:Nat)(xs:List DV)(h:aA):Option (DV×aA) :=
 match hI run df rest id sz off len ety xs h ((rest.map zZ).foldl (·+·) 0) none with
 | some l=>if(List.range ((rest.map zZ).foldl (·+·) 0)).all (fun e=>match hI run df rest id sz off len ety xs h e (some (xs.length+e))with|some l'=>sW l l'|none=>false)=true then
   some (.sl h.n sz 0 l.length,(h.set id .dead).push (.arr ety sz l none))else none
 | none=>none
theorem Qr{r1 r2:uR}(hr:mS r1 r2){df:aK}{rest:List DV}{id sz off len ety:Nat}{xs:List DV}{h:aA}{r:DV×aA}(hs:jN r1 df rest id sz off len ety xs h=some r) :
  jN r2 df rest id sz off len ety xs h=some r:=by
 unfold jN at hs ⊢
 split at hs
 ·rename_i l hl
  split at hs
  ·rename_i gR
   rw[nQ hr hl]
   simp only
   rw[if_pos]
   ·exact hs
   ·refine List.all_eq_true.2 fun e he=>?_
    have:=List.all_eq_true.1 gR e he
    split at this
    ·rename_i l' Vk
     rw[nQ hr Vk];exact this
    ·cases this
  ·cases hs
 ·cases hs
def dI(run:uR)(df:aK)(args:List DV)(h:aA):Option (DV×aA) :=
 match df.mode with
 | .full=>gS run df args h
 | .fresh=>match gS run df args {h with lim:=h.n} with
  | some (v,h')=>some (v,{h' with lim:=h.lim})
  | none=>none
 | .pure=>match args.mapM (resolve true h bT)with
  | some ds=>match gS run df ds {objs:=[],n:=0,lim:=0} with
   | some (v,h')=>match resolve false h' bT v with
    | some d=>if bA bT d then some (d,h)else none
    | none=>none
   | none=>none
  | none=>none
 | .split=>match args with
  | .sl id sz off len::rest=>match h.get id with
   | some (.arr ety dK xs none)=>if sz=dK∧h.lim≤id then jN run df rest id sz off len ety xs h else none
   | _=>gS run df args h
  | _=>gS run df args h
 | .frz=>match rZ fP h args with
  | some (as,h1)=>match as.mapM (resolve true h1 bT)with
   | some ds=>match gS run df ds {objs:=[],n:=0,lim:=0} with
    | some (v,h')=>match resolve false h' bT v with
     | some d=>if bA bT d then some (d,h1)else none
     | none=>none
    | none=>none
   | none=>none
  | none=>none
theorem uJ(run:uR)(D:bX)(f:Nat)(args:List DV)(h:aA) :
  enter run D f args h=match D.hook f with
   | some hk=>hk h args
   | none=>match D.fn f with
    | none=>none
    | some df=>dI run df args h:=by
 unfold enter
 cases D.hook f with
 | some hk=>rfl
 | none =>
  cases D.fn f with
  | none=>rfl
  | some df =>
   simp only
   unfold dI
   cases df.mode<;>rfl
theorem Yo{r1 r2:uR}(hr:mS r1 r2){df:aK}{args:List DV}{h:aA}{r:DV×aA}(hs:dI r1 df args h=some r):dI r2 df args h=some r:=by
 unfold dI at hs ⊢
 split at hs
 ·exact oT hr hs
 ·split at hs
  ·rename_i v h' h1
   rw[oT hr h1];exact hs
  ·cases hs
 ·split at hs
  ·split at hs
   ·rename_i h1
    rw[oT hr h1];exact hs
   ·cases hs
  ·cases hs
 ·split at hs
  ·split at hs
   ·split at hs
    ·rename_i hc
     rw[if_pos hc]
     exact Qr hr hs
    ·cases hs
   ·rename_i cS
    exact oT hr hs
  ·exact oT hr hs
 ·split at hs
  ·split at hs
   ·split at hs
    ·rename_i h1
     rw[oT hr h1];exact hs
    ·cases hs
   ·cases hs
  ·cases hs
theorem iT{r1 r2:uR}(hr:mS r1 r2)(D:bX):pD (enter r1 D) (enter r2 D):=by
 intro f args h r hs
 rw[uJ]at hs ⊢
 split at hs
 ·exact hs
 ·split at hs
  ·cases hs
  ·exact Yo hr hs
theorem S6{c1 c2:fE}{r1 r2:uR}(hc:pD c1 c2)(hr:mS r1 r2){it nx ok en X Y p:Nat}{ops:List aJ}{b:aI}:∀(l:List (DV×DV)) {env:Env} {h:aA} {e:Ex} {aU:Env} {h':aA},
  rounds c1 r1 it nx ok en X Y p ops b l env h=.ok e aU h'→rounds c2 r2 it nx ok en X Y p ops b l env h=.ok e aU h':=by
 intro l
 induction l with
 | nil=>intro env h e aU h' he;exact he
 | cons x r ih =>
  intro env h e aU h' he
  obtain⟨k,v⟩:=x
  simp only[rounds]at he ⊢
  split at he
  ·split at he
   ·rename_i bU
    rw[if_pos bU]
    split at he
    ·rename_i h2
     rw[uZ hc _ h2]
     simp only
     split at he
     ·rename_i h3;rw[hr _ _ _ _ _ _ h3];exact ih he
     ·rename_i h3
      rw[hr _ _ _ _ _ _ h3]
      simp only
      split at he
      ·rename_i hi;rw[if_pos hi];exact ih he
      ·rename_i hi;rw[if_neg hi];exact he
     ·rename_i h3 h4
      rw[hr _ _ _ _ _ _ he]
      cases e with
      | normal=>exact absurd he (h3 _ _)
      | exit i=>exact absurd he (h4 _ _ _)
      | ret=>rfl
    ·cases he
   ·cases he
  ·cases he
theorem Ji{c1 c2:fE}{r1 r2:uR}(hc:pD c1 c2)(hr:mS r1 r2){it nx ok en X Y m:Nat}{kl:List Nat}{ops:List aJ}{b:aI}{es p:List (DV×DV)}{env:Env}{h:aA}{e:Ex}{aU:Env}{h':aA}
  (he:nX c1 r1 it nx ok en X Y kl ops b m es env h p=.ok e aU h'):nX c2 r2 it nx ok en X Y kl ops b m es env h p=.ok e aU h':=by
 unfold nX at he ⊢
 cases BM:rounds c1 r1 it nx ok en X Y h.n ops b p (env.set it (.ptr h.n 0 0 0)) (qS h m)with
 | fail=>rw[BM]at he;cases he
 | ok e1 env1 h1=>rw[S6 hc hr _ BM,←BM];exact he
theorem MT{e:Ex}{env:Env}{h:aA}{r:Res}(hs:Z9 e env h r=true):∃ e1 env1 h1,r=.ok e1 env1 h1:=by
 cases r with
 | fail=>cases hs
 | ok e1 env1 h1=>exact⟨_,_,_,rfl⟩
theorem BX{c1 c2:fE}{r1 r2:uR}(hc:pD c1 c2)(hr:mS r1 r2){it nx ok en X Y:Nat}{kl:List Nat}{ops:List aJ}{b:aI}{env:Env}{h:aA}{x:Option (Nat×List (DV×DV))}{e:Ex}{aU:Env}{h':aA}
  (he:Dp c1 r1 it nx ok en X Y kl ops b env h x=.ok e aU h'):Dp c2 r2 it nx ok en X Y kl ops b env h x=.ok e aU h':=by
 cases x with
 | none=>cases he
 | some x =>
  obtain⟨m,es⟩:=x
  simp only[Dp]at he ⊢
  split at he
  ·rename_i h3
   rw[Ji hc hr h3]
   simp only
   split at he
   ·rename_i gR
    rw[if_pos]
    ·exact he
    ·refine List.all_eq_true.2 fun p hp=>?_
     have:=List.all_eq_true.1 gR p hp
     obtain⟨e1,env1,h1,h4⟩:=MT this
     rw[Ji hc hr h4,←h4];exact this
   ·cases he
  ·cases he
theorem On(D:bX):∀n,mS (dB D n) (dB D (n+1)):=by
 intro n
 induction n with
 | zero=>intro c env h e aU h' he;cases he
 | succ n ih =>
  intro c env h e aU h' he
  cases c<;>unfold dB at he<;>unfold dB<;>simp only at he ⊢
  case skip=>exact he
  case exit=>exact he
  case ret=>exact he
  case seq a b =>
   split at he
   ·rename_i h1
    rw[ih _ _ _ _ _ _ h1];exact ih _ _ _ _ _ _ he
   ·rename_i cS
    rw[ih _ _ _ _ _ _ he]
    cases e with
    | normal=>exact absurd he (cS _ _)
    | _=>rfl
  case cond c a b =>
   split at he
   ·exact ih _ _ _ _ _ _ he
   ·exact ih _ _ _ _ _ _ he
   ·cases he
  case block id b =>
   split at he
   ·rename_i h1
    rw[ih _ _ _ _ _ _ h1];exact he
   ·rename_i cS
    rw[ih _ _ _ _ _ _ he]
    cases e with
    | exit i=>exact absurd he (cS _ _ _)
    | _=>rfl
  case loop b =>
   split at he
   ·rename_i h1
    rw[ih _ _ _ _ _ _ h1];exact ih _ _ _ _ _ _ he
   ·rename_i cS
    rw[ih _ _ _ _ _ _ he]
    cases e with
    | normal=>exact absurd he (cS _ _)
    | _=>rfl
  case region ops =>
   split at he
   ·rename_i h1
    rw[uZ (iT ih D) _ h1];exact he
   ·cases he
  case draw ops =>
   split at he
   ·rename_i h1
    rw[rR (iT ih D) _ h1];exact he
   ·cases he
  case walk x it nx ok en X Y kl ops b=>exact BX (iT ih D) ih he
theorem gI(D:bX){n m:Nat}(h:n≤m):mS (dB D n) (dB D m):=by
 induction h with
 | refl=>exact .refl _
 | step _ ih=>exact ih.trans (On D _)
open Classical in
noncomputable def ev(D:bX):uR:=fun c env h =>
 if hx:∃ x:Nat×Ex×Env×aA,dB D x.1 c env h=.ok x.2.1 x.2.2.1 x.2.2.2 then .ok hx.choose.2.1 hx.choose.2.2.1 hx.choose.2.2.2 else .fail
theorem eD{D:bX}{c:aI}{env:Env}{h:aA}{e:Ex}{aU:Env}{h':aA}:ev D c env h=.ok e aU h'↔∃ n,dB D n c env h=.ok e aU h':=by
 unfold ev
 constructor
 ·intro hs
  split at hs
  ·rename_i hx
   have:=hx.choose_spec
   exact⟨_,this.trans hs⟩
  ·cases hs
 ·rintro⟨n,hn⟩
  have hx:∃ x:Nat×Ex×Env×aA,dB D x.1 c env h=.ok x.2.1 x.2.2.1 x.2.2.2:=⟨⟨n,e,aU,h'⟩,hn⟩
  rw[dif_pos hx]
  have h1:=gI D (Nat.le_max_left n hx.choose.1) _ _ _ _ _ _ hn
  have h2:=gI D (Nat.le_max_right n hx.choose.1) _ _ _ _ _ _ hx.choose_spec
  rw[h1]at h2
  exact h2.symm
theorem Gk(D:bX)(n:Nat):mS (dB D n) (ev D):=fun _ _ _ _ _ _ h=>eD.2 ⟨n,h⟩
theorem vA{a b:Res}(h:∀e env h,a=.ok e env h↔b=.ok e env h):a=b:=by
 cases a with
 | fail=>cases b with
  | fail=>rfl
  | ok e env h0=>exact((h e env h0).2 rfl)
 | ok e env h0=>exact((h e env h0).1 rfl).symm
noncomputable def fc(D:bX):fE:=enter (ev D) D
theorem iS{D:bX}{df:aK}{args:List DV}{h:aA}{r:DV×aA}(hs:gS (ev D) df args h=some r):∃ n,gS (dB D n) df args h=some r:=by
 cases hv:ev D df.body (args++List.replicate (df.ntmps-args.length) bI) h with
 | fail=>unfold gS at hs;rw[hv]at hs;cases hs
 | ok e env h' =>
  obtain⟨n,hn⟩:=eD.1 hv
  refine⟨n,?_⟩
  unfold gS at hs ⊢
  rw[hv]at hs
  rw[hn]
  exact hs
theorem yP{D:bX}{df:aK}{rest:List DV}{id sz off len ety:Nat}{xs:List DV}{h:aA}{e:Nat}{cap:Option Nat}{l:List DV}(hs:hI (ev D) df rest id sz off len ety xs h e cap=some l) :
  ∃ n,hI (dB D n) df rest id sz off len ety xs h e cap=some l:=by
 unfold hI at hs
 cases hg:gS (ev D) df (.sl h.n sz off len::rest) {(h.set id .dead).push (.arr ety sz (xs++List.replicate e .unk) cap)with lim:=h.n} with
 | none=>rw[hg]at hs;simp[nZ]at hs
 | some r =>
  obtain⟨n,hn⟩:=iS hg
  refine⟨n,?_⟩
  unfold hI
  rw[hn,←hg];exact hs
theorem Eb{D:bX}{df:aK}{rest:List DV}{id sz off len ety:Nat}{xs:List DV}{h:aA}{r:DV×aA}(hs:jN (ev D) df rest id sz off len ety xs h=some r) :
  ∃ n,jN (dB D n) df rest id sz off len ety xs h=some r:=by
 unfold jN at hs
 split at hs
 ·rename_i l hl
  split at hs
  ·rename_i gR
   obtain⟨n0,hn0⟩:=yP hl
   have many:∀es:List Nat,(es.all fun e=>match hI (ev D) df rest id sz off len ety xs h e (some (xs.length+e))with|some l'=>sW l l'|none=>false)=true →
     ∃ n,(es.all fun e=>match hI (dB D n) df rest id sz off len ety xs h e (some (xs.length+e))with|some l'=>sW l l'|none=>false)=true:=by
    intro es
    induction es with
    | nil=>intro _;exact⟨0,rfl⟩
    | cons e es ih =>
     intro ha
     simp only[List.all_cons,Bool.and_eq_true]at ha
     obtain⟨n1,h1⟩:=ih ha.2
     have h2:=ha.1
     split at h2
     ·rename_i l' Vk
      obtain⟨n2,h3⟩:=yP Vk
      refine⟨max n1 n2,?_⟩
      simp only[List.all_cons,Bool.and_eq_true]
      refine⟨by rw[nQ (gI D (Nat.le_max_right n1 n2)) h3];exact h2,List.all_eq_true.2 fun e he=>?_⟩
      have:=List.all_eq_true.1 h1 e he
      split at this
      ·rename_i l2 Vj
       rw[nQ (gI D (Nat.le_max_left n1 n2)) Vj];exact this
      ·cases this
     ·cases h2
   obtain⟨n1,hn1⟩:=many _ gR
   refine⟨max n0 n1,?_⟩
   unfold jN
   rw[nQ (gI D (Nat.le_max_left n0 n1)) hn0]
   simp only
   rw[if_pos]
   ·exact hs
   ·refine List.all_eq_true.2 fun e he=>?_
    have:=List.all_eq_true.1 hn1 e he
    split at this
    ·rename_i l2 Vj
     rw[nQ (gI D (Nat.le_max_right n0 n1)) Vj];exact this
    ·cases this
  ·cases hs
 ·cases hs
theorem Ie{D:bX}{df:aK}{args:List DV}{h:aA}{r:DV×aA}(hs:dI (ev D) df args h=some r):∃ n,dI (dB D n) df args h=some r:=by
 unfold dI at hs
 split at hs
 ·rename_i hm
  obtain⟨n,hn⟩:=iS hs
  exact⟨n,by unfold dI;rw[hm];exact hn⟩
 ·rename_i hm
  split at hs
  ·rename_i v h' h1
   obtain⟨n,hn⟩:=iS h1
   exact⟨n,by unfold dI;rw[hm];simp only;rw[hn];exact hs⟩
  ·cases hs
 ·rename_i hm
  split at hs
  ·rename_i ds Cb
   split at hs
   ·rename_i v h' h1
    obtain⟨n,hn⟩:=iS h1
    exact⟨n,by unfold dI;rw[hm];simp only;rw[Cb];simp only;rw[hn];exact hs⟩
   ·cases hs
  ·cases hs
 ·rename_i hm
  split at hs
  ·rename_i id sz off len rest
   split at hs
   ·rename_i ety dK xs hg
    split at hs
    ·rename_i hc
     obtain⟨n,hn⟩:=Eb hs
     exact⟨n,by unfold dI;rw[hm];simp only;rw[hg];simp only;rw[if_pos hc];exact hn⟩
    ·cases hs
   ·rename_i cS
    obtain⟨n,hn⟩:=iS hs
    refine⟨n,?_⟩
    unfold dI
    rw[hm]
    simp only
    exact hn
  ·rename_i cS
   obtain⟨n,hn⟩:=iS hs
   refine⟨n,?_⟩
   unfold dI
   rw[hm]
   simp only
   exact hn
 ·rename_i hm
  split at hs
  ·rename_i as h1 ea
   split at hs
   ·rename_i ds Cb
    split at hs
    ·rename_i v h' h2
     obtain⟨n,hn⟩:=iS h2
     exact⟨n,by unfold dI;rw[hm];simp only;rw[ea];simp only;rw[Cb];simp only;rw[hn];exact hs⟩
    ·cases hs
   ·cases hs
  ·cases hs
theorem Dl{D:bX}{f:Nat}{args:List DV}{h:aA}{r:DV×aA}:fc D f args h=some r↔∃ n,Un D n f args h=some r:=by
 constructor
 ·intro hs
  unfold fc at hs
  rw[uJ]at hs
  split at hs
  ·rename_i hk hh
   exact⟨0,by unfold Un;rw[uJ,hh];exact hs⟩
  ·rename_i hh
   split at hs
   ·cases hs
   ·rename_i df hdf
    obtain⟨n,hn⟩:=Ie hs
    exact⟨n,by unfold Un;rw[uJ,hh,hdf];exact hn⟩
 ·rintro⟨n,hn⟩
  exact iT (Gk D n) D f args h r hn
theorem Gw(D:bX)(n:Nat):pD (enter (dB D n) D) (fc D):=iT (Gk D n) D
theorem pR{D:bX}{o:DOp}{env:Env}{h:aA}{r:DV×aA}(hs:bE (fc D) o env h=some r):∃ n,bE (enter (dB D n) D) o env h=some r:=by
 cases o
 case call f args =>
  simp only[bE]at hs ⊢
  split at hs
  ·exact Dl.1 hs
  ·cases hs
 all_goals exact⟨0,hs⟩
theorem Og{D:bX}{l:Nat}{o:DOp}{env:Env}{h:aA}{r:DV×aA}(hs:kY (fc D) l o env h=some r):∃ n,kY (enter (dB D n) D) l o env h=some r:=by
 unfold kY at hs
 split at hs
 ·rename_i v h' h1
  obtain⟨n,hn⟩:=pR h1
  exact⟨n,by unfold kY;rw[hn];exact hs⟩
 ·cases hs
theorem Gq{D:bX}{l q:Nat}{L:cC}{o:DOp}{env:Env}{h:aA}{r:DV×aA×cC}(hs:cK (fc D) l q L o env h=some r):∃ n,cK (enter (dB D n) D) l q L o env h=some r:=by
 unfold cK at hs
 split at hs
 ·rename_i id hp
  exact⟨0,by unfold cK;rw[hp];exact hs⟩
 ·rename_i hp
  split at hs
  ·rename_i hpo
   unfold kU at hs
   split at hs
   ·split at hs
    ·rename_i h1
     obtain⟨n,hn⟩:=pR h1
     exact⟨n,by unfold cK;rw[hp];simp only;rw[hpo];simp only[kU];rw[hn];exact hs⟩
    ·cases hs
   ·cases hs
  ·rename_i hpo
   split at hs
   ·rename_i v h' h1
    obtain⟨n,hn⟩:=Og h1
    exact⟨n,by unfold cK;rw[hp];simp only;rw[hpo];simp only;rw[hn];exact hs⟩
   ·cases hs
theorem Mr{D:bX}:∀(ops:List aJ) {env:Env} {h:aA} {r:Env×aA},eP (fc D) ops env h=some r→∃ n,eP (enter (dB D n) D) ops env h=some r:=by
 intro ops
 induction ops with
 | nil=>intro env h r hs;exact⟨0,hs⟩
 | cons o ops ih =>
  intro env h r hs
  simp only[eP]at hs
  split at hs
  ·rename_i hw
   split at hs
   ·rename_i v h' h1
    obtain⟨n1,k1⟩:=pR h1
    obtain⟨n2,k2⟩:=ih hs
    refine⟨max n1 n2,?_⟩
    simp only[eP,hw]
    rw[qX (iT (gI D (Nat.le_max_left n1 n2)) D) k1]
    exact uZ (iT (gI D (Nat.le_max_right n1 n2)) D) _ k2
   ·cases hs
  ·rename_i hw
   obtain⟨n2,k2⟩:=ih hs
   exact⟨n2,by simp only[eP,hw];exact k2⟩
  ·cases hs
theorem Ht{D:bX}:∀(ops:List aJ) {env:Env} {hs:List aA} {L:cC} {r:Env×aA},dH (fc D) ops env hs L=some r→∃ n,dH (enter (dB D n) D) ops env hs L=some r:=by
 intro ops
 induction ops with
 | nil=>intro env h L r hs;exact⟨0,hs⟩
 | cons o ops ih =>
  intro env hs L r he
  cases hs with
  | nil=>simp[dH]at he
  | cons h hs =>
   simp only[dH]at he
   split at he
   ·cases he
   ·rename_i hw
    split at he
    ·rename_i hk
     split at he
     ·rename_i Pl
      split at he
      ·rename_i h0 hsn
       split at he
       ·rename_i v h1 cX
        obtain⟨n,hn⟩:=ih he
        exact⟨n,by simp only[dH,hw,hk,hsn,cX,if_pos Pl];exact hn⟩
       ·cases he
      ·cases he
     ·cases he
    ·rename_i hk
     split at he
     ·rename_i v h' h1
      obtain⟨n1,k1⟩:=pR h1
      obtain⟨n2,k2⟩:=ih he
      refine⟨max n1 n2,?_⟩
      simp only[dH,hw,hk]
      rw[qX (iT (gI D (Nat.le_max_left n1 n2)) D) k1]
      exact rR (iT (gI D (Nat.le_max_right n1 n2)) D) _ k2
     ·cases he
    ·rename_i hk
     split at he
     ·rename_i h0 hsn
      split at he
      ·rename_i v h' L' h1
       obtain⟨n1,k1⟩:=Gq h1
       obtain⟨n2,k2⟩:=ih he
       refine⟨max n1 n2,?_⟩
       simp only[dH,hw,hk,hsn]
       rw[Cg (iT (gI D (Nat.le_max_left n1 n2)) D) k1]
       exact rR (iT (gI D (Nat.le_max_right n1 n2)) D) _ k2
      ·cases he
     ·cases he
   ·rename_i hw
    obtain⟨n2,k2⟩:=ih he
    exact⟨n2,by simp only[dH,hw];exact k2⟩
section
variable (D:bX) (env:Env) (h:aA)
theorem MO:ev D .skip env h=.ok .normal env h:=eD.2 ⟨1,rfl⟩
theorem MQ(id:Nat):ev D (.exit id) env h=.ok (.exit id) env h:=eD.2 ⟨1,rfl⟩
theorem SR:ev D .ret env h=.ok .ret env h:=eD.2 ⟨1,rfl⟩
theorem SQ(a b:aI):ev D (.seq a b) env h=match ev D a env h with
  | .ok .normal env h=>ev D b env h
  | r=>r:=by
 apply vA
 intro e aU h'
 constructor
 ·intro hs
  obtain⟨n,hn⟩:=eD.1 hs
  cases n with
  | zero=>cases hn
  | succ n =>
   simp only[dB]at hn
   split at hn
   ·rename_i h1
    rw[eD.2 ⟨n,h1⟩]
    exact eD.2 ⟨n,hn⟩
   ·rename_i cS
    rw[eD.2 ⟨n,hn⟩]
    cases e with
    | normal=>exact absurd hn (cS _ _)
    | _=>rfl
 ·intro hs
  split at hs
  ·rename_i env1 h1 hv
   obtain⟨n1,k1⟩:=eD.1 hv
   obtain⟨n2,k2⟩:=eD.1 hs
   refine eD.2 ⟨max n1 n2+1,?_⟩
   simp only[dB]
   rw[gI D (Nat.le_max_left n1 n2) _ _ _ _ _ _ k1]
   exact gI D (Nat.le_max_right n1 n2) _ _ _ _ _ _ k2
  ·rename_i cS
   obtain⟨n1,k1⟩:=eD.1 hs
   refine eD.2 ⟨n1+1,?_⟩
   simp only[dB]
   rw[k1]
   cases e with
   | normal=>exact absurd hs (cS _ _)
   | _=>rfl
theorem MS(c:Opd)(a b:aI):ev D (.cond c a b) env h=match c.eval env with
  | .bool true=>ev D a env h
  | .bool false=>ev D b env h
  | _=>.fail:=by
 apply vA
 intro e aU h'
 constructor
 ·intro hs
  obtain⟨n,hn⟩:=eD.1 hs
  cases n with
  | zero=>cases hn
  | succ n =>
   simp only[dB]at hn
   split at hn
   ·rename_i hc;rw[hc];exact eD.2 ⟨n,hn⟩
   ·rename_i hc;rw[hc];exact eD.2 ⟨n,hn⟩
   ·cases hn
 ·intro hs
  split at hs
  ·rename_i hc
   obtain⟨n1,k1⟩:=eD.1 hs
   exact eD.2 ⟨n1+1,by simp only[dB,hc];exact k1⟩
  ·rename_i hc
   obtain⟨n1,k1⟩:=eD.1 hs
   exact eD.2 ⟨n1+1,by simp only[dB,hc];exact k1⟩
  ·cases hs
theorem GV(id:Nat)(b:aI):ev D (.block id b) env h=match ev D b env h with
  | .ok (.exit id') env h=>if id'=id then .ok .normal env h else .ok (.exit id') env h
  | r=>r:=by
 apply vA
 intro e aU h'
 constructor
 ·intro hs
  obtain⟨n,hn⟩:=eD.1 hs
  cases n with
  | zero=>cases hn
  | succ n =>
   simp only[dB]at hn
   split at hn
   ·rename_i h1
    rw[eD.2 ⟨n,h1⟩]
    exact hn
   ·rename_i cS
    rw[eD.2 ⟨n,hn⟩]
    cases e with
    | exit i=>exact absurd hn (cS _ _ _)
    | _=>rfl
 ·intro hs
  split at hs
  ·rename_i h1
   obtain⟨n1,k1⟩:=eD.1 h1
   exact eD.2 ⟨n1+1,by simp only[dB];rw[k1];exact hs⟩
  ·rename_i cS
   obtain⟨n1,k1⟩:=eD.1 hs
   refine eD.2 ⟨n1+1,?_⟩
   simp only[dB]
   rw[k1]
   cases e with
   | exit i=>exact absurd hs (cS _ _ _)
   | _=>rfl
theorem MP(b:aI):ev D (.loop b) env h=match ev D b env h with
  | .ok .normal env h=>ev D (.loop b) env h
  | r=>r:=by
 apply vA
 intro e aU h'
 constructor
 ·intro hs
  obtain⟨n,hn⟩:=eD.1 hs
  cases n with
  | zero=>cases hn
  | succ n =>
   simp only[dB]at hn
   split at hn
   ·rename_i h1
    rw[eD.2 ⟨n,h1⟩]
    exact eD.2 ⟨n,hn⟩
   ·rename_i cS
    rw[eD.2 ⟨n,hn⟩]
    cases e with
    | normal=>exact absurd hn (cS _ _)
    | _=>rfl
 ·intro hs
  split at hs
  ·rename_i env1 h1 hv
   obtain⟨n1,k1⟩:=eD.1 hv
   obtain⟨n2,k2⟩:=eD.1 hs
   refine eD.2 ⟨max n1 n2+1,?_⟩
   simp only[dB]
   rw[gI D (Nat.le_max_left n1 n2) _ _ _ _ _ _ k1]
   exact gI D (Nat.le_max_right n1 n2) _ _ _ _ _ _ k2
  ·rename_i cS
   obtain⟨n1,k1⟩:=eD.1 hs
   refine eD.2 ⟨n1+1,?_⟩
   simp only[dB]
   rw[k1]
   cases e with
   | normal=>exact absurd hs (cS _ _)
   | _=>rfl
theorem Z8(ops:List aJ):ev D (.region ops) env h=match eP (fc D) ops env h with
  | some (env,h)=>.ok .normal env h
  | none=>.fail:=by
 apply vA
 intro e aU h'
 constructor
 ·intro hs
  obtain⟨n,hn⟩:=eD.1 hs
  cases n with
  | zero=>cases hn
  | succ n =>
   simp only[dB]at hn
   split at hn
   ·rename_i h1
    rw[uZ (Gw D n) _ h1];exact hn
   ·cases hn
 ·intro hs
  split at hs
  ·rename_i h1
   obtain⟨n1,k1⟩:=Mr _ h1
   exact eD.2 ⟨n1+1,by simp only[dB];rw[k1];exact hs⟩
  ·cases hs
theorem MR(ops:List aJ):ev D (.draw ops) env h=match dH (fc D) ops env [h] .start with
  | some (env,h)=>.ok .normal env h
  | none=>.fail:=by
 apply vA
 intro e aU h'
 constructor
 ·intro hs
  obtain⟨n,hn⟩:=eD.1 hs
  cases n with
  | zero=>cases hn
  | succ n =>
   simp only[dB]at hn
   split at hn
   ·rename_i h1
    rw[rR (Gw D n) _ h1];exact hn
   ·cases hn
 ·intro hs
  split at hs
  ·rename_i h1
   obtain⟨n1,k1⟩:=Ht _ h1
   exact eD.2 ⟨n1+1,by simp only[dB];rw[k1];exact hs⟩
  ·cases hs
theorem To(f:Nat)(args:List DV):fc D f args h=match D.hook f with
  | some hk=>hk h args
  | none=>match D.fn f with
   | none=>none
   | some df=>dI (ev D) df args h:=uJ _ _ _ _ _
end
end Go.Dm
/-
Part 2 of "Dw": the same with what is still to be done laid in a row, and the slots by number: each step is one equation.
-/
namespace Go.Dm
abbrev dV:=Nat→DV
def tab(N:Nat)(f:dV):Env:=(List.range N).map f
def upd(f:dV)(d:Nat)(v:DV):dV:=fun i=>if i=d then v else f i
def qV(f:dV)(dst:Option Nat)(v:DV):dV:=match dst with|some d=>upd f d v|none=>f
def rd(N:Nat)(f:dV)(i:Nat):DV:=if i<N then f i else .unk
def HT(args:List DV):dV:=fun i=>args.getD i bI
theorem uY(N:Nat)(f:dV)(i:Nat):(tab N f)[i]?=if i<N then some (f i)else none:=by
 by_cases h:i<N
 ·simp[tab,h]
 ·simp only[tab,List.getElem?_map,if_neg h]
  rw[List.getElem?_eq_none (by simp;omega)];rfl
theorem Ds(N:Nat)(f:dV)(i:Nat):((tab N f)[i]?).getD .unk=rd N f i:=by
 rw[uY];unfold rd;split<;>rfl
theorem JD(N:Nat)(f:dV)(d:Nat)(v:DV):(tab N f).set d v=tab N (upd f d v):=by
 apply List.ext_getElem?
 intro i
 rw[List.getElem?_set,uY,uY]
 simp only[tab,List.length_map,List.length_range,upd]
 by_cases e:d=i
 ·subst e
  by_cases h:d<N<;>simp[h]
 ·have e':¬i=d:=fun q=>e q.symm
  simp only[if_neg e,if_neg e']
theorem pN(N:Nat)(f:dV)(dst:Option Nat)(v:DV):put (tab N f) dst v=tab N (qV f dst v):=by
 cases dst with
 | none=>rfl
 | some d=>exact JD N f d v
theorem CL(N:Nat)(args:List DV)(h:args.length≤N):args++List.replicate (N-args.length) bI=tab N (HT args):=by
 apply List.ext_getElem?
 intro i
 rw[uY,List.getElem?_append]
 unfold HT
 by_cases h1:i<args.length
 ·rw[if_pos h1,if_pos (by omega)]
  simp[h1]
 ·rw[if_neg h1]
  by_cases h2:i<N
  ·rw[if_pos h2,List.getElem?_replicate,if_pos (by omega),List.getD_eq_getElem?_getD,List.getElem?_eq_none (by omega)];rfl
  ·rw[if_neg h2,List.getElem?_replicate,if_neg (by omega)]
theorem SO(N:Nat)(f:dV)(i:Nat):Opd.eval (tab N f) (.t i)=rd N f i:=Ds N f i
theorem SP(env:Env)(v:DV):Opd.eval env (.c v)=v:=rfl
inductive Fr where
 | seq (b:aI)
 | block (id:Nat)
 | loop (b:aI)
noncomputable def wY(D:bX):List Fr→Ex→Env→aA→Res
 | [],e,env,h=>.ok e env h
 | .seq b::S,e,env,h=>match e with
  | .normal=>match ev D b env h with
   | .ok e env h=>wY D S e env h
   | .fail=>.fail
  | e=>wY D S e env h
 | .block id::S,e,env,h=>wY D S (match e with|.exit i=>if i=id then .normal else .exit i|e=>e) env h
 | .loop b::S,e,env,h=>match e with
  | .normal=>match ev D (.loop b) env h with
   | .ok e env h=>wY D S e env h
   | .fail=>.fail
  | e=>wY D S e env h
noncomputable def after(D:bX)(S:List Fr):Res→Res
 | .ok e env h=>wY D S e env h
 | .fail=>.fail
noncomputable def run(D:bX)(N:Nat)(S:List Fr)(c:aI)(f:dV)(h:aA):Res:=after D S (ev D c (tab N f) h)
noncomputable def ret(D:bX)(N:Nat)(S:List Fr)(e:Ex)(f:dV)(h:aA):Res:=wY D S e (tab N f) h
noncomputable def EE(D:bX)(N:Nat)(S:List Fr)(a b:aI)(f:dV)(h:aA):DV→Res
 | .bool true=>run D N S a f h
 | .bool false=>run D N S b f h
 | _=>.fail
noncomputable def yR(D:bX)(N:Nat)(S:List Fr)(ops:List aJ)(f:dV)(h:aA):Res :=
 match eP (fc D) ops (tab N f) h with
 | some (env,h)=>wY D S .normal env h
 | none=>.fail
noncomputable def R8(D:bX)(N:Nat)(S:List Fr)(dst:Option Nat)(r:List aJ)(f:dV):Option (DV×aA)→Res
 | some (v,h)=>yR D N S r (qV f dst v) h
 | none=>.fail
noncomputable def S1(D:bX)(N:Nat)(S:List Fr)(o:aJ)(w:Bool)(r:List aJ)(f:dV)(h:aA):DV→Res
 | .bool b=>if b=w then R8 D N S o.dst r f (bE (fc D) o.op (tab N f) h)else yR D N S r (qV f o.dst bI) h
 | .tup _=>yR D N S r (qV f o.dst bI) h
 | _=>.fail
noncomputable def tC(D:bX)(N:Nat)(S:List Fr)(ops:List aJ)(f:dV)(hs:List aA)(L:cC):Res :=
 match dH (fc D) ops (tab N f) hs L with
 | some (env,h)=>wY D S .normal env h
 | none=>.fail
noncomputable def J2(D:bX)(N:Nat)(S:List Fr)(dst:Option Nat)(r:List aJ)(f:dV)(hs:List aA)(L:cC):Option (DV×aA)→Res
 | some (v,_)=>tC D N S r (qV f dst v) hs L
 | none=>.fail
noncomputable def J1(D:bX)(N:Nat)(S:List Fr)(dst:Option Nat)(r:List aJ)(f:dV)(hs:List aA)(L:cC):Option (DV×aA)→Res
 | some (v,h)=>tC D N S r (qV f dst v) (h::hs) L
 | none=>.fail
noncomputable def J0(D:bX)(N:Nat)(S:List Fr)(dst:Option Nat)(r:List aJ)(f:dV)(hs:List aA):Option (DV×aA×cC)→Res
 | some (v,h,L)=>tC D N S r (qV f dst v) (h::hs) L
 | none=>.fail
noncomputable def Rf(D:bX)(N:Nat)(S:List Fr)(dst:Option Nat)(op:DOp)(cm:Bool)(r:List aJ)(f:dV)(hs:List aA)(L:cC):Option aA→Res
 | some h0=>J2 D N S dst r f hs (L.see cm (mark (tab N f) op)) (aB h0 (tab N f) op)
 | none=>.fail
noncomputable def J3(D:bX)(N:Nat)(S:List Fr)(dst:Option Nat)(op:DOp)(r:List aJ)(f:dV)(h:aA)(gs:List aA)(L:cC):Option aA→Res
 | some h0=>J0 D N S dst r f (h::gs) (cK (fc D) h0.n gs.length L op (tab N f) h)
 | none=>.fail
noncomputable def yS(D:bX)(N:Nat)(S:List Fr)(dst:Option Nat)(op:DOp)(snap:Nat)(cm:Bool)(r:List aJ)(f:dV)(hs:List aA)(L:cC):rI→Res
 | .read=>if L.free snap (bM (tab N f) op)=true then Rf D N S dst op cm r f hs L (gZ hs snap)else .fail
 | .write=>match hs with
  | h::_=>J1 D N S dst r f hs L (bE (fc D) op (tab N f) h)
  | []=>.fail
 | .create=>match hs with
  | h::gs=>J3 D N S dst op r f h gs L (gZ hs snap)
  | []=>.fail
noncomputable def wL(D:bX)(N:Nat)(S:List Fr)(dst:Option Nat)(k:rI)(r:List aJ)(f:dV)(L:cC):List aA→Res
 | h::hs=>tC D N S r (qV f dst bI) (if k=.read then h::hs else h::h::hs) L
 | []=>.fail
noncomputable def Rh(D:bX)(N:Nat)(S:List Fr)(o:aJ)(w:Bool)(r:List aJ)(f:dV)(hs:List aA)(L:cC):DV→Res
 | .bool b=>if b=w then yS D N S o.dst o.op o.snap o.calm r f hs L o.kind else wL D N S o.dst o.kind r f L hs
 | .tup _=>wL D N S o.dst o.kind r f L hs
 | _=>.fail
noncomputable def N1(D:bX)(as:List DV)(h:aA):DV→Option (DV×aA)
 | .func g cap=>fc D g (as++cap) h
 | _=>none
section
variable (D:bX) (N:Nat) (S:List Fr) (f:dV) (h:aA)
theorem DU:run D N S .skip f h=ret D N S .normal f h:=by unfold run;rw[MO];rfl
theorem DX(id:Nat):run D N S (.exit id) f h=ret D N S (.exit id) f h:=by unfold run;rw[MQ];rfl
theorem KB:run D N S .ret f h=ret D N S .ret f h:=by unfold run;rw[SR];rfl
theorem KA(a b:aI):run D N S (.seq a b) f h=run D N (.seq b::S) a f h:=by
 unfold run
 rw[SQ]
 cases ev D a (tab N f) h with
 | fail=>rfl
 | ok e env h1 =>
  cases e<;>simp only[after,wY]
theorem DZ(c:Opd)(a b:aI):run D N S (.cond c a b) f h=EE D N S a b f h (c.eval (tab N f)):=by
 unfold run
 rw[MS]
 unfold EE
 split<;>simp_all[run,after]
theorem R6(id:Nat)(b:aI):run D N S (.block id b) f h=run D N (.block id::S) b f h:=by
 unfold run
 rw[GV]
 cases ev D b (tab N f) h with
 | fail=>rfl
 | ok e env h1 =>
  cases e with
  | exit i =>
   by_cases e:i=id
   ·simp only[after,wY,if_pos e]
   ·simp only[after,wY,if_neg e]
  | _=>rfl
theorem DW(b:aI):run D N S (.loop b) f h=run D N (.loop b::S) b f h:=by
 unfold run
 rw[MP]
 cases ev D b (tab N f) h with
 | fail=>rfl
 | ok e env h1 =>
  cases e<;>simp only[after,wY]
theorem Wz(ops:List aJ):run D N S (.region ops) f h=yR D N S ops f h:=by
 unfold run yR
 rw[Z8]
 cases eP (fc D) ops (tab N f) h<;>rfl
theorem DY(ops:List aJ):run D N S (.draw ops) f h=tC D N S ops f [h] .start:=by
 unfold run tC
 rw[MR]
 cases dH (fc D) ops (tab N f) [h] .start<;>rfl
theorem S4(a b:aI):EE D N S a b f h (.bool true)=run D N S a f h:=rfl
theorem Xl(a b:aI):EE D N S a b f h (.bool false)=run D N S b f h:=rfl
theorem ED(a b:aI)(t:Bool):EE D N S a b f h (.bool t)=if t=true then run D N S a f h else run D N S b f h:=by cases t<;>rfl
theorem KD(e:Ex):ret D N [] e f h=.ok e (tab N f) h:=rfl
theorem KC(b:aI):ret D N (.seq b::S) .normal f h=run D N S b f h:=by
 unfold ret run;simp only[wY];cases ev D b (tab N f) h<;>rfl
theorem Mx(b:aI)(i:Nat):ret D N (.seq b::S) (.exit i) f h=ret D N S (.exit i) f h:=rfl
theorem Rj(b:aI):ret D N (.seq b::S) .ret f h=ret D N S .ret f h:=rfl
theorem S7(id:Nat):ret D N (.block id::S) .normal f h=ret D N S .normal f h:=rfl
theorem Hw(id:Nat):ret D N (.block id::S) .ret f h=ret D N S .ret f h:=rfl
theorem El(id i:Nat):ret D N (.block id::S) (.exit i) f h=ret D N S (if i=id then .normal else .exit i) f h:=rfl
theorem EG(b:aI):ret D N (.loop b::S) .normal f h=run D N S (.loop b) f h:=by
 unfold ret run;simp only[wY];cases ev D (.loop b) (tab N f) h<;>rfl
theorem Hv(b:aI)(i:Nat):ret D N (.loop b::S) (.exit i) f h=ret D N S (.exit i) f h:=rfl
theorem My(b:aI):ret D N (.loop b::S) .ret f h=ret D N S .ret f h:=rfl
theorem EA:yR D N S [] f h=ret D N S .normal f h:=rfl
theorem R9(dst:Option Nat)(op:DOp)(k:rI)(s:Nat)(cm:Bool)(r:List aJ) :
  yR D N S (⟨dst,op,none,k,s,cm⟩::r) f h=R8 D N S dst r f (bE (fc D) op (tab N f) h):=by
 unfold yR
 simp only[eP,fV]
 cases bE (fc D) op (tab N f) h with
 | none=>rfl
 | some p=>simp only[R8,pN];rfl
theorem Xa(dst:Option Nat)(op:DOp)(t:Nat)(w:Bool)(k:rI)(s:Nat)(cm:Bool)(r:List aJ) :
  yR D N S (⟨dst,op,some (t,w),k,s,cm⟩::r) f h=S1 D N S ⟨dst,op,some (t,w),k,s,cm⟩ w r f h (rd N f t):=by
 unfold yR
 simp only[eP,fV,uY]
 unfold rd
 by_cases aZ:t<N
 ·simp only[if_pos aZ]
  cases hv:f t with
  | bool b =>
   simp only[S1]
   by_cases e:b=w
   ·subst e
    simp only[beq_self_eq_true,if_true]
    cases bE (fc D) op (tab N f) h with
    | none=>rfl
    | some p=>simp only[R8,pN];rfl
   ·have:(b == w)=false:=by simpa using e
    simp only[this,if_neg e,pN];rfl
  | tup l=>simp only[S1,pN];rfl
  | _=>rfl
 ·simp only[if_neg aZ];rfl
theorem R7(dst:Option Nat)(r:List aJ)(v:DV):R8 D N S dst r f (some (v,h))=yR D N S r (qV f dst v) h:=rfl
theorem S0(o:aJ)(w:Bool)(r:List aJ)(b:Bool):S1 D N S o w r f h (.bool b)=if b=w then R8 D N S o.dst r f (bE (fc D) o.op (tab N f) h)else yR D N S r (qV f o.dst bI) h:=rfl
theorem EB(o:aJ)(w:Bool)(r:List aJ)(l:List DV):S1 D N S o w r f h (.tup l)=yR D N S r (qV f o.dst bI) h:=rfl
variable (hs:List aA) (L:cC)
theorem EC:tC D N S [] f (h::hs) L=ret D N S .normal f h:=rfl
theorem Jt(dst:Option Nat)(op:DOp)(k:rI)(s:Nat)(cm:Bool)(r:List aJ)(g:Option (Nat×Bool)) :
  tC D N S (⟨dst,op,g,k,s,cm⟩::r) f (h::hs) L=(match fV (tab N f) g with
   | none=>.fail
   | some true=>yS D N S dst op s cm r f (h::hs) L k
   | some false=>wL D N S dst k r f L (h::hs)):=by
 unfold tC
 simp only[dH]
 cases fV (tab N f) g with
 | none=>rfl
 | some t =>
  cases t with
  | false=>simp only[wL,pN];rfl
  | true =>
   simp only[yS]
   cases k with
   | read =>
    simp only
    by_cases Pl:L.free s (bM (tab N f) op)=true
    ·simp only[if_pos Pl,Rf]
     cases gZ (h::hs) s with
     | none=>rfl
     | some h0 =>
      simp only
      cases aB h0 (tab N f) op with
      | none=>rfl
      | some p=>simp only[J2,pN];rfl
    ·simp only[if_neg Pl]
   | write =>
    simp only
    cases bE (fc D) op (tab N f) h with
    | none=>rfl
    | some p=>simp only[J1,pN];rfl
   | create =>
    simp only[J3]
    cases gZ (h::hs) s with
    | none=>rfl
    | some h0 =>
     simp only
     cases cK (fc D) h0.n hs.length L op (tab N f) h with
     | none=>rfl
     | some p=>simp only[J0,pN];rfl
theorem S2(dst:Option Nat)(op:DOp)(k:rI)(s:Nat)(cm:Bool)(r:List aJ) :
  tC D N S (⟨dst,op,none,k,s,cm⟩::r) f (h::hs) L=yS D N S dst op s cm r f (h::hs) L k:=by rw[Jt];rfl
theorem Xc(dst:Option Nat)(op:DOp)(t:Nat)(w:Bool)(k:rI)(s:Nat)(cm:Bool)(r:List aJ) :
  tC D N S (⟨dst,op,some (t,w),k,s,cm⟩::r) f (h::hs) L=Rh D N S ⟨dst,op,some (t,w),k,s,cm⟩ w r f (h::hs) L (rd N f t):=by
 rw[Jt]
 simp only[fV,uY]
 unfold rd
 by_cases aZ:t<N
 ·simp only[if_pos aZ]
  cases hv:f t with
  | bool b =>
   simp only[Rh]
   by_cases e:b=w
   ·subst e;simp
   ·have:(b == w)=false:=by simpa using e
    simp only[this,if_neg e]
  | _=>rfl
 ·simp only[if_neg aZ];rfl
theorem Xj(o:aJ)(w:Bool)(r:List aJ)(b:Bool):Rh D N S o w r f hs L (.bool b)=if b=w then yS D N S o.dst o.op o.snap o.calm r f hs L o.kind else wL D N S o.dst o.kind r f L hs:=rfl
theorem S3(o:aJ)(w:Bool)(r:List aJ)(l:List DV):Rh D N S o w r f hs L (.tup l)=wL D N S o.dst o.kind r f L hs:=rfl
theorem Xg(dst:Option Nat)(r:List aJ):wL D N S dst .read r f L (h::hs)=tC D N S r (qV f dst bI) (h::hs) L:=rfl
theorem Rc(dst:Option Nat)(r:List aJ):wL D N S dst .write r f L (h::hs)=tC D N S r (qV f dst bI) (h::h::hs) L:=rfl
theorem Ms(dst:Option Nat)(r:List aJ):wL D N S dst .create r f L (h::hs)=tC D N S r (qV f dst bI) (h::h::hs) L:=rfl
theorem Xh(dst:Option Nat)(op:DOp)(s:Nat)(cm:Bool)(r:List aJ):yS D N S dst op s cm r f hs L .read=if L.free s (bM (tab N f) op)=true then Rf D N S dst op cm r f hs L (gZ hs s)else .fail:=rfl
theorem Rd(dst:Option Nat)(op:DOp)(s:Nat)(cm:Bool)(r:List aJ):yS D N S dst op s cm r f (h::hs) L .write=J1 D N S dst r f (h::hs) L (bE (fc D) op (tab N f) h):=rfl
theorem Mt(dst:Option Nat)(op:DOp)(s:Nat)(cm:Bool)(r:List aJ):yS D N S dst op s cm r f (h::hs) L .create=J3 D N S dst op r f h hs L (gZ (h::hs) s):=rfl
theorem Xi(dst:Option Nat)(op:DOp)(cm:Bool)(r:List aJ)(h0:aA):Rf D N S dst op cm r f hs L (some h0)=J2 D N S dst r f hs (L.see cm (mark (tab N f) op)) (aB h0 (tab N f) op):=rfl
theorem Xk(dst:Option Nat)(op:DOp)(r:List aJ)(h0:aA):J3 D N S dst op r f h hs L (some h0)=J0 D N S dst r f (h::hs) (cK (fc D) h0.n hs.length L op (tab N f) h):=rfl
theorem Xf(dst:Option Nat)(r:List aJ)(v:DV):J2 D N S dst r f hs L (some (v,h))=tC D N S r (qV f dst v) hs L:=rfl
theorem Xe(dst:Option Nat)(r:List aJ)(v:DV):J1 D N S dst r f hs L (some (v,h))=tC D N S r (qV f dst v) (h::hs) L:=rfl
theorem Xd(dst:Option Nat)(r:List aJ)(v:DV):J0 D N S dst r f hs (some (v,h,L))=tC D N S r (qV f dst v) (h::hs) L:=rfl
theorem Q6(k:Nat):gZ hs k=hs.reverse[k]?:=by
 unfold gZ
 split
 ·rename_i hk;rw[List.getElem?_reverse hk]
 ·rename_i hk;rw[List.getElem?_eq_none (by simp;omega)]
theorem Yg(g:Opd)(args:List Opd)(env:Env):bE (fc D) (.call g args) env h=N1 D (args.map (Opd.eval env)) h (g.eval env):=by
 simp only[bE,N1]
 split<;>simp_all
theorem B9(as:List DV)(g:Nat)(cap:List DV):N1 D as h (.func g cap)=fc D g (as++cap) h:=rfl
def fin(rs:List Jf):Res→Option (DV×aA)
 | .ok (.exit _) _ _=>none
 | .ok _ env h'=>match aV h' env rs with
  | some v=>some (v,h')
  | none=>none
 | .fail=>none
def Z3(h:aA):Option DV→Option (DV×aA)
 | some v=>some (v,h)
 | none=>none
theorem MN(rs:List Jf)(env:Env):fin rs (.ok .ret env h)=Z3 h (aV h env rs):=by
 unfold fin Z3;rfl
theorem Zu(rs:List Jf)(env:Env):fin rs (.ok .normal env h)=Z3 h (aV h env rs):=by
 unfold fin Z3;rfl
theorem Z2(v:DV):Z3 h (some v)=some (v,h):=rfl
theorem aM(df:aK)(args:List DV)(hl:args.length≤df.ntmps):gS (ev D) df args h=fin df.results (run D df.ntmps [] df.body (HT args) h):=by
 unfold gS run
 rw[CL _ _ hl]
 cases ev D df.body (tab df.ntmps (HT args)) h with
 | fail=>rfl
 | ok e env h1=>cases e<;>rfl
theorem Hy(env:Env)(r:Jf):aV h env [r]=iO h env r:=rfl
theorem Xm(n:Nat):iO h (tab N f) (.t n)=some (rd N f n):=by simp only[iO,Ds]
theorem Hz(a:Nat)(n:Option Nat):iO h (tab N f) (.cell a n)=jI h n (rd N f a):=by simp only[iO,Ds]
end
def rB:aA:={objs:=[],n:=0,lim:=0}
noncomputable def iK(o:Option (DV×aA)):Option DV :=
 match o with
 | some (v,h')=>match resolve false h' bT v with
  | some d=>if bA bT d then some d else none
  | none=>none
 | none=>none
noncomputable def pcF(D:bX)(df:aK)(ds:List DV):Option DV:=iK (gS (ev D) df ds rB)
def cU(h:aA):Option DV→Option (DV×aA)
 | some d=>some (d,h)
 | none=>none
theorem xU(h:aA)(d:DV):cU h (some d)=some (d,h):=rfl
noncomputable def rH(D:bX)(df:aK)(h:aA):Option (List DV)→Option (DV×aA)
 | some ds=>cU h (pcF D df ds)
 | none=>none
theorem sO(D:bX)(df:aK)(h:aA)(ds:List DV):rH D df h (some ds)=cU h (pcF D df ds):=rfl
theorem bZ{D:bX}{f:Nat}{df:aK}(hh:D.hook f=none)(hf:D.fn f=some df)(hm:df.mode=.pure)(args:List DV)(h:aA) :
  fc D f args h=rH D df h (args.mapM (resolve true h bT)):=by
 rw[To,hh,hf]
 simp only
 unfold dI
 rw[hm]
 simp only
 cases args.mapM (resolve true h bT)with
 | none=>rfl
 | some ds =>
  simp only[rH,pcF,iK,rB,cU]
  cases gS (ev D) df ds {objs:=[],n:=0,lim:=0} with
  | none=>rfl
  | some p =>
   obtain⟨v,h'⟩:=p
   simp only
   cases resolve false h' bT v with
   | none=>rfl
   | some d =>
    simp only
    split<;>rfl
noncomputable def N0(D:bX)(df:aK):Option (List DV×aA)→Option (DV×aA)
 | some (as,h)=>rH D df h (as.mapM (resolve true h bT))
 | none=>none
theorem B8(D:bX)(df:aK)(as:List DV)(h:aA):N0 D df (some (as,h))=rH D df h (as.mapM (resolve true h bT)):=rfl
theorem Gi{D:bX}{f:Nat}{df:aK}(hh:D.hook f=none)(hf:D.fn f=some df)(hm:df.mode=.frz)(args:List DV)(h:aA) :
  fc D f args h=N0 D df (rZ fP h args):=by
 rw[To,hh,hf]
 simp only
 unfold dI
 rw[hm]
 simp only
 cases rZ fP h args with
 | none=>rfl
 | some p =>
  obtain⟨as,h1⟩:=p
  simp only[N0]
  cases as.mapM (resolve true h1 bT)with
  | none=>rfl
  | some ds =>
   simp only[rH,pcF,iK,rB,cU]
   cases gS (ev D) df ds {objs:=[],n:=0,lim:=0} with
   | none=>rfl
   | some p =>
    obtain⟨v,h'⟩:=p
    simp only
    cases resolve false h' bT v with
    | none=>rfl
    | some d =>
     simp only
     split<;>rfl
theorem dX{D:bX}{f:Nat}{df:aK}(hh:D.hook f=none)(hf:D.fn f=some df)(hm:df.mode=.full)(args:List DV)(h:aA) :
  fc D f args h=gS (ev D) df args h:=by
 rw[To,hh,hf]
 simp only
 unfold dI
 rw[hm]
theorem jD{D:bX}{f:Nat}{hk:qK}(hh:D.hook f=some hk)(args:List DV)(h:aA):fc D f args h=hk h args:=by
 rw[To,hh]
end Go.Dm
