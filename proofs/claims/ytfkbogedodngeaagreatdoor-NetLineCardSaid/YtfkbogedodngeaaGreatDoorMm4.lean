/- A part of the proof. -/
import Derived.Test.YtfkbogedodngeaaGreatDoorMm3
import Derived.RowKit3
import Derived.Lib.Overlaps
import Derived.Lib.Bytealg
import Derived.Below
import Derived.Sort.Row
import Derived.Sort.Grow
set_option linter.all false
namespace Go.Dm
structure La(P:Program)(D:bU):Prop where
 mixed:P.follows .mixedOrders=true
 comp:∀f df,D.fn f=some df→∃ fn,P.funcs[f]?=some fn∧aD P fn df.mode=some df
 hooks:∀f hk,D.hook f=some hk→∀args h d h' c vals,hk h args=some (d,h')→Rel h c→VRs c args vals→Jd P f vals.toArray h c h' d
 keep:xJ D
section
variable {P:Program} {D:bU}
def xL(P:Program)(D:bU)(n:Nat):Prop :=
 ∀code dc h c env a e aU h' Q,bP P code=some dc→dB D n dc env h=.ok e aU h'→Rel h c→bY c env a→(∀a' w',St c h' aU a' w'→Q (Cy e) a' w')→code.wp P Q a c.w
def Mu(P:Program)(D:bU)(n:Nat):Prop :=
 ∀code dc h c env a e aU h' Q,bP P code=some dc→dB D n (.loop dc) env h=.ok e aU h'→Rel h c→bY c env a→(∀a' w',St c h' aU a' w'→Q (Cy e) a' w')→Code.rounds P code Q n a c.w
theorem Ml{c:Ctx}{args:List DV}{vals:List Value}(hv:VRs c args vals)(n:Nat) :
  bY c (args++List.replicate (n-args.length) bH) {tmps:=vals.toArray++Array.replicate (n-vals.toArray.size) Go.undef,defers:=[]}:=by
 have hl:=hv.1
 refine⟨by simp[hl],rfl,fun i hi=>?_⟩
 simp only[List.length_append,List.length_replicate]at hi
 by_cases h1:i<args.length
 ·have h2:i<vals.length:=by omega
  rw[List.getElem_append_left h1]
  have:=hv.2 i h1 h2
  simpa[Array.getElem?_append,h2]using this
 ·rw[List.getElem_append_right (by omega)]
  simp only[List.getElem_replicate]
  have h2:¬i<vals.length:=by omega
  have h3:i-vals.length<n-vals.length:=by omega
  have:(vals.toArray++Array.replicate (n-vals.toArray.size) Go.undef).getD i Go.undef=Go.undef:=by
   simp[Array.getElem?_append,h2,h3]
  rw[this]
  exact .undef
theorem pV{n : Nat}(hC : xL P D n){fn : Func}{body : Code}{df : aL}(hb : fn.body = some body)(PQ : bP P body = some df.body)(PD : fn.results.toList.mapM (Bj P) = some df.results)(hnt : df.ntmps = fn.ntmps)
    {f : Nat} (hf : P.funcs[f]? = some fn) {args : List DV} {vals : List Value} {h : aA} {c : Ctx} (hR : Rel h c) (hv : VRs c args vals) {d : DV} {h' : aA}
    (he : (match dB D n df.body (args ++ List.replicate (df.ntmps - args.length) bH) h with
          | .ok (.exit _) _ _ => none
          | .ok _ env h' => match aT h' env df.results with
            | some v => some (v, h')
            | none => none
          | .fail => none) = some (d, h')) : Calls P f vals.toArray c.w (sT h c h' d) := by
  have fin : ∀ e aU h1, e = Ex.normal ∨ e = Ex.ret → dB D n df.body (args ++ List.replicate (df.ntmps - args.length) bH) h = .ok e aU h1 → aT h1 aU df.results = some d → h1 = h' → Calls P f vals.toArray c.w (sT h c h' d) := by
    intro e aU h1 LV gB hres e1
    subst e1
    refine calls_of_wp hf hb (hC body df.body h c _ _ e aU h1 _ PQ gB hR (by have := Ml hv df.ntmps; rw[hnt]at this ⊢; exact this) fun a' w' cS => ?_)
    obtain⟨ρ', k1, k2, k3⟩ := cS
    obtain⟨v, r1, r2⟩ := Jw (P := P) (fn := fn) PD k1 k3 hres
    have : a'.defers = [] ∧ ∃ v, (results fn a'.tmps).run P w' = .ok v w' ∧ sT h c h1 d (.returned v) w' := ⟨k3.defers, v, r1, v, rfl, ρ', k1, k2, r2⟩
    rcases LV with rfl | rfl
    · exact this
    · exact this
  split at he
  · cases he
  · rename_i e aU h1 cK gB
    split at he
    · rename_i v hres
      cases he
      refine fin e aU _ ?_ gB hres rfl
      cases e with
      | normal => exact .inl rfl
      | exit id => exact absurd rfl (cK id)
      | ret => exact .inr rfl
    · cases he
  · cases he
theorem Vl(hk : xJ D){n : Nat}{df : aL}{args : List DV}{h h' : aA}{d : DV}(hl : h.lim ≤ h.n)
    (he : (match dB D n df.body (args ++ List.replicate (df.ntmps - args.length) bH) h with
          | .ok (.exit _) _ _ => none
          | .ok _ env h' => match aT h' env df.results with
            | some v => some (v, h')
            | none => none
          | .fail => none) = some (d, h')) : dU h h' := by
  split at he
  · cases he
  · rename_i h2
    split at he
    · cases he; exact Ib hk n _ _ _ _ _ _ hl h2
    · cases he
  · cases he
theorem jD {f : FuncId} {fn : Func} {body : Code} (hf : P.funcs[f]? = some fn) (hb : fn.body = some body) (hn : fn.name ≠ "runtime.NumGoroutine") (vals : Array Value) (w : World) : (callFunc f vals).run P w = .ok (.enter f vals) w := by
 simp[callFunc,hf,hb,hn]
theorem vX(G:La P D){n:Nat}(hC:xL P D n):iM P (enter (dB D n) D):=by
 intro f args h d h' c vals he hR hv
 unfold enter at he
 split at he
 ·rename_i hk oN;exact G.hooks f hk oN args h d h' c vals he hR hv
 ·split at he
  ·cases he
  ·rename_i df hdf
   obtain⟨fn,hf,RX⟩:=G.comp f df hdf
   unfold aD at RX
   split at RX
   ·rename_i body hb
    split at RX
    ·rename_i b rs PQ PD
     split at RX
     ·rename_i Au
      refine .inr ⟨f,vals.toArray,jD hf hb Au _ _,?_⟩
      have hdfe:df={ntmps:=fn.ntmps,results:=rs,body:=b,mode:=df.mode}:=(Option.some.inj RX).symm
      have e1:df.body=b:=by rw[hdfe]
      have e2:df.results=rs:=by rw[hdfe]
      have e3:df.ntmps=fn.ntmps:=by rw[hdfe]
      simp only at he
      split at he
      ·exact pV hC hb (by rw[e1];exact PQ) (by rw[e2];exact PD) e3 hf hR hv he
      ·split at he
       ·rename_i v1 h1 Fe
        cases he
        have:=pV hC hb (by rw[e1];exact PQ) (by rw[e2];exact PD) e3 hf (hR.setLim (Nat.le_refl _)) hv Fe
        refine this.mono fun e w' hp=>?_
        obtain⟨v,e0,ρ',k1,k2,k3⟩:=hp
        have Hl:=Vl G.keep (Nat.le_refl _) Fe
        exact⟨v,e0,ρ',k1.setLim (Nat.le_trans hR.lim Hl.n),k2,k3⟩
       ·cases he
      ·split at he
       ·rename_i ds Dx
        split at he
        ·rename_i v1 h1 Fe
         split at he
         ·rename_i d1 G7
          split at he
          ·rename_i LK
           cases he
           have:=pV hC hb (by rw[e1];exact PQ) (by rw[e2];exact PD) e3 hf hR.lend (Du hR Dx hv) Fe
           refine this.mono fun e w' hp=>?_
           obtain⟨v,e0,ρ',k1,k2,k3⟩:=hp
           exact⟨v,e0,Tq hR k1 k2 k3 G7 LK⟩
          ·cases he
         ·cases he
        ·cases he
       ·cases he
      ·split at he
       ·rename_i id sz off len rest
        split at he
        ·rename_i ety dK xs Qh
         split at he
         ·rename_i bS
          obtain⟨hcond1,hcond2⟩:=bS
          subst hcond1
          split at he
          ·rename_i l hl
           split at he
           ·rename_i iD
            cases he
            have hv0:∃ v0 vr,vals=v0::vr:=by
             cases vals with
             | nil=>have:=hv.1;simp at this
             | cons v0 vr=>exact⟨v0,vr,rfl⟩
            obtain⟨v0,vr,rfl⟩:=hv0
            have hvh:VR c (.sl id sz off len) v0:=hv.2 0 (by simp) (by simp)
            obtain⟨e,cap,ρ1,hcase,k1,k2,k3⟩:=FX hR Qh hvh ((rest.map Bv).foldl (·+·) 0)
            have hscn:pM h ety sz (match dB D n df.body ((.sl h.n sz off len::rest)++List.replicate (df.ntmps-(DV.sl h.n sz off len::rest).length) bH) {(h.set id .dead).push (.arr ety sz (xs++List.replicate e .unk) cap)with lim:=h.n} with
              | .ok (.exit _) _ _=>none
              | .ok _ env h'=>match aT h' env df.results with
               | some v=>some (v,h')
               | none=>none
              | .fail=>none)=some l:=by
             rcases hcase with⟨rfl,rfl⟩|⟨aY,rfl⟩
             ·exact hl
             ·have:=List.all_eq_true.1 iD e (List.mem_range.2 aY)
              split at this
              ·rename_i l' G2
               rw[nI _ _ this];exact G2
              ·cases this
            have Fe:∃ r hj,(match dB D n df.body ((.sl h.n sz off len::rest)++List.replicate (df.ntmps-(DV.sl h.n sz off len::rest).length) bH) {(h.set id .dead).push (.arr ety sz (xs++List.replicate e .unk) cap)with lim:=h.n} with
              | .ok (.exit _) _ _=>none
              | .ok _ env h'=>match aT h' env df.results with
               | some v=>some (v,h')
               | none=>none
              | .fail=>none)=some (r,hj):=by
             cases hx:(match dB D n df.body ((.sl h.n sz off len::rest)++List.replicate (df.ntmps-(DV.sl h.n sz off len::rest).length) bH) {(h.set id .dead).push (.arr ety sz (xs++List.replicate e .unk) cap)with lim:=h.n} with
              | .ok (.exit _) _ _=>none
              | .ok _ env h'=>match aT h' env df.results with
               | some v=>some (v,h')
               | none=>none
              | .fail=>none)with
             | none=>rw[hx]at hscn;cases hscn
             | some p=>exact⟨p.1,p.2,rfl⟩
            obtain⟨r,hj,Fe⟩:=Fe
            rw[Fe]at hscn
            have bJ:h.n≤((h.set id .dead).push (.arr ety sz (xs++List.replicate e .unk) cap)).n:=Nat.le_succ _
            have JH:VRs (c.next c.w ρ1 ((h.set id .dead).push (.arr ety sz (xs++List.replicate e .unk) cap))) (.sl h.n sz off len::rest) (v0::vr):=by
             refine⟨hv.1,fun i h1 h2=>?_⟩
             cases i with
             | zero=>exact k3
             | succ i=>exact(hv.2 (i+1) h1 h2).mono k2
            have fG:=pV hC hb (by rw[e1];exact PQ) (by rw[e2];exact PD) e3 hf (k1.setLim bJ) JH Fe
            have hkp:=Vl G.keep bJ Fe
            refine fG.mono fun e w' hp=>?_
            obtain⟨v,e0,ρj,q1,q2,q3⟩:=hp
            refine⟨v,e0,Y5 hR Qh q1 (k2.trans q2) (fun i hi=>?_) hscn q3⟩
            have:=hkp.get i hi
            rw[this]
            exact aG hi
           ·cases he
          ·cases he
         ·cases he
        ·exact pV hC hb (by rw[e1];exact PQ) (by rw[e2];exact PD) e3 hf hR hv he
       ·exact pV hC hb (by rw[e1];exact PQ) (by rw[e2];exact PD) e3 hf hR hv he
      ·split at he
       ·rename_i as h1 ea
        obtain⟨kF,kV⟩:=Hd (fun a b c=>Kj a b c) hR hv ea
        split at he
        ·rename_i ds Dx
         split at he
         ·rename_i v1 h2 Fe
          split at he
          ·rename_i d1 G7
           split at he
           ·rename_i LK
            cases he
            have:=pV hC hb (by rw[e1];exact PQ) (by rw[e2];exact PD) e3 hf kF.1.lend (Du kF.1 Dx kV) Fe
            refine this.mono fun e w' hp=>?_
            obtain⟨v,e0,ρ',k1,k2,k3⟩:=hp
            obtain⟨ρ2,p1,p2,p3⟩:=Tq kF.1 k1 k2 k3 G7 LK
            exact⟨v,e0,ρ2,p1,kF.2.trans p2,p3⟩
           ·cases he
          ·cases he
         ·cases he
        ·cases he
       ·cases he
     ·cases RX
    ·cases RX
   ·cases RX
theorem pH(a b:aI):∃ x y,Ha a b=.seq x y:=by
 unfold Ha
 cases hw:uQ a b with
 | none=>exact⟨a,b,rfl⟩
 | some r =>
  unfold uQ at hw
  split at hw
  ·split at hw
   ·split at hw
    ·cases hw;exact⟨_,_,rfl⟩
    ·cases hw
   ·cases hw
  ·cases hw
theorem yF{a b r:aI}(hw:uQ a b=some r):∃ ds dl x it nx ok en X Y kl ops bb d1 d2 d3,a=.region ds∧ds.getLast?=some dl∧(dl.dst=some it∧dl.op=.range x∧dl.guard=none) ∧
  b=.block X (.loop (.seq (.region [d1,d2]) (.seq (.cond (.t ok) .skip (.exit X)) (.block Y (.seq (.region (d3::ops)) bb)))))∧(d1.dst=some nx∧d1.op=.next (.t it)∧d1.guard=none)∧(d2.dst=some ok∧d2.op=.extract (.t nx) 0∧d2.guard=none) ∧
  (d3.dst=some en∧d3.op=.entry (.t it)∧d3.guard=none)∧Ph bb=true∧(it≠nx∧it≠ok)∧r=.seq (.region ds.dropLast) (.walk x it nx ok en X Y kl ops bb):=by
 unfold uQ at hw
 split at hw
 ·split at hw
  ·rename_i hl
   split at hw
   ·rename_i hc
    obtain⟨⟨rfl,rfl,rfl,rfl,rfl⟩,hb,cK⟩:=hc
    cases hw
    exact⟨_,_,_,_,_,_,_,_,_,_,_,_,_,_,_,rfl,hl,⟨rfl,rfl,rfl⟩,rfl,⟨rfl,rfl,rfl⟩,⟨rfl,rfl,rfl⟩,⟨rfl,rfl,rfl⟩,hb,cK,rfl⟩
   ·cases hw
  ·cases hw
 ·cases hw
theorem oG{code:Code}{ds:List aH}(hc:bP P code=some (.region ds)):∃ id ops,code=.region id ops false∧ops.toList.mapM (cZ P ops.toList .write 0)=some ds:=by
 cases code<;>unfold bP at hc
 case region id ops draw =>
  cases draw with
  | false =>
   simp only[fD,Bool.false_eq_true,if_false]at hc
   split at hc
   ·rename_i h;cases hc;exact⟨id,ops,rfl,h⟩
   ·cases hc
  | true =>
   obtain⟨bQ,bs,e,_⟩:=eI hc
   cases e
 case seq a b =>
  split at hc
  ·obtain⟨x,y,e⟩:=pH _ _
   rw[e]at hc;cases hc
  ·cases hc
 all_goals ((repeat' split at hc)<;>first|(cases hc;done)|(simp at hc;done))
theorem tY{code:Code}{a b:aI}(hc:bP P code=some (.seq a b))(hb:Ph b=true):∃ x y,code=.seq x y∧bP P x=some a∧bP P y=some b:=by
 cases code<;>unfold bP at hc
 case seq x y =>
  split at hc
  ·rename_i da db h1 h2
   cases hw:uQ da db with
   | none =>
    unfold Ha at hc
    rw[hw]at hc
    cases hc
    exact⟨x,y,rfl,h1,h2⟩
   | some r =>
    obtain⟨ds,dl,x0,it,nx,ok,en,X,Y,kl,ops,bb,d1,d2,d3,_,_,_,_,_,_,_,_,_,rfl⟩:=yF hw
    unfold Ha at hc
    rw[hw]at hc
    cases hc
    cases hb
  ·cases hc
 case region id ops draw =>
  cases draw with
  | false =>
   simp only[fD,Bool.false_eq_true,if_false]at hc
   split at hc<;>cases hc
  | true =>
   obtain⟨bQ,bs,e,_⟩:=eI hc
   cases e
 all_goals ((repeat' split at hc)<;>first|(cases hc;done)|(simp at hc;done))
theorem wC{code:Code}{X:Nat}{b:aI}(hc:bP P code=some (.block X b)):∃ y,code=.block X y∧bP P y=some b:=by
 cases code<;>unfold bP at hc
 case block id y =>
  split at hc
  ·rename_i h;cases hc;exact⟨y,rfl,h⟩
  ·cases hc
 case region id ops draw =>
  cases draw with
  | false =>
   simp only[fD,Bool.false_eq_true,if_false]at hc
   split at hc<;>cases hc
  | true =>
   obtain⟨bQ,bs,e,_⟩:=eI hc
   cases e
 case seq a b =>
  split at hc
  ·obtain⟨x,y,e⟩:=pH _ _
   rw[e]at hc;cases hc
  ·cases hc
 all_goals ((repeat' split at hc)<;>first|(cases hc;done)|(simp at hc;done))
theorem Ks{code:Code}{b:aI}(hc:bP P code=some (.loop b)):∃ y,code=.loop y∧bP P y=some b:=by
 cases code<;>unfold bP at hc
 case loop y =>
  split at hc
  ·rename_i h;cases hc;exact⟨y,rfl,h⟩
  ·cases hc
 case region id ops draw =>
  cases draw with
  | false =>
   simp only[fD,Bool.false_eq_true,if_false]at hc
   split at hc<;>cases hc
  | true =>
   obtain⟨bQ,bs,e,_⟩:=eI hc
   cases e
 case seq a b =>
  split at hc
  ·obtain⟨x,y,e⟩:=pH _ _
   rw[e]at hc;cases hc
  ·cases hc
 all_goals ((repeat' split at hc)<;>first|(cases hc;done)|(simp at hc;done))
theorem Ku{code:Code}{c:Opd}{a b:aI}(hc:bP P code=some (.cond c a b)):∃ o x y,code=.cond o x y∧opd o=some c∧bP P x=some a∧bP P y=some b:=by
 cases code<;>unfold bP at hc
 case cond o x y =>
  split at hc
  ·rename_i h1 h2 h3;cases hc;exact⟨o,x,y,rfl,h1,h2,h3⟩
  ·cases hc
 case region id ops draw =>
  cases draw with
  | false =>
   simp only[fD,Bool.false_eq_true,if_false]at hc
   split at hc<;>cases hc
  | true =>
   obtain⟨bQ,bs,e,_⟩:=eI hc
   cases e
 case seq a b =>
  split at hc
  ·obtain⟨x,y,e⟩:=pH _ _
   rw[e]at hc;cases hc
  ·cases hc
 all_goals ((repeat' split at hc)<;>first|(cases hc;done)|(simp at hc;done))
theorem Kr{code:Code}(hc:bP P code=some .skip):code=.skip:=by
 cases code<;>unfold bP at hc
 case skip=>rfl
 case region id ops draw =>
  cases draw with
  | false =>
   simp only[fD,Bool.false_eq_true,if_false]at hc
   split at hc<;>cases hc
  | true =>
   obtain⟨bQ,bs,e,_⟩:=eI hc
   cases e
 case seq a b =>
  split at hc
  ·obtain⟨x,y,e⟩:=pH _ _
   rw[e]at hc;cases hc
  ·cases hc
 all_goals ((repeat' split at hc)<;>first|(cases hc;done)|(simp at hc;done))
theorem Kt{code:Code}{X:Nat}(hc:bP P code=some (.exit X)):code=.exit X:=by
 cases code<;>unfold bP at hc
 case exit id=>cases hc;rfl
 case region id ops draw =>
  cases draw with
  | false =>
   simp only[fD,Bool.false_eq_true,if_false]at hc
   split at hc<;>cases hc
  | true =>
   obtain⟨bQ,bs,e,_⟩:=eI hc
   cases e
 case seq a b =>
  split at hc
  ·obtain⟨x,y,e⟩:=pH _ _
   rw[e]at hc;cases hc
  ·cases hc
 all_goals ((repeat' split at hc)<;>first|(cases hc;done)|(simp at hc;done))
theorem Ma{α β:Type}{f:α→Option β}:∀{l:List α} {r:List β} {d:β},l.mapM f=some (r++[d])→∃ l' o,l=l'++[o]∧l'.mapM f=some r∧f o=some d:=by
 intro l
 induction l with
 | nil=>intro r d h;simp at h
 | cons x l ih =>
  intro r d h
  simp only[List.mapM_cons,Option.pure_def,Option.bind_eq_bind,Option.bind_eq_some_iff]at h
  obtain⟨y,hy,ys,xA,h⟩:=h
  cases r with
  | nil =>
   simp only[List.nil_append,Option.some.injEq,List.cons.injEq]at h
   obtain⟨rfl,rfl⟩:=h
   have hl:=bZ _ _ _ xA
   have:l=[]:=List.length_eq_zero_iff.1 (by simpa using hl.symm)
   subst this
   exact⟨[],x,rfl,rfl,hy⟩
  | cons z r =>
   simp only[List.cons_append,Option.some.injEq,List.cons.injEq]at h
   obtain⟨rfl,rfl⟩:=h
   obtain⟨l',o,rfl,h1,h2⟩:=ih xA
   exact⟨x::l',o,rfl,by simp[hy,h1],h2⟩
theorem Xq{call:gY}{run:aI→Env→aA→Res}(fG:iM P call)
  (hcode:∀code dc h c env a e aU h' (Q:Exit→Act→World→Prop),bP P code=some dc→run dc env h=.ok e aU h'→Rel h c→bY c env a→(∀a' w',St c h' aU a' w'→Q (Cy e) a' w')→code.wp P Q a c.w)
  {x y:Code} {dx dy r1:aI} {rr:aI} (hx:bP P x=some dx) (hy:bP P y=some dy) (hw:uQ dx dy=some rr) {h:aA} {c:Ctx} {env:Env} {a:Act} {e:Ex} {aU:Env} {h':aA} {Q:Exit→Act→World→Prop} {env1:Env} {h1:aA}
  {ds:List aH} {xo:Opd} {it nx ok en X Y:Nat} {kl:List Nat} {ops:List aH} {bb:aI} (hrr:rr=.seq (.region ds) (.walk xo it nx ok en X Y kl ops bb)) (he1:eM call ds env h=some (env1,h1))
  (he2:Fq call run it nx ok en X Y kl ops bb env1 h1 (sO h1 (xo.eval env1))=.ok e aU h') (hR:Rel h c) (hE:bY c env a) (hQ:∀a' w',St c h' aU a' w'→Q (Cy e) a' w'):(Code.seq x y).wp P Q a c.w:=by
 obtain⟨ds0,dl,x0,it0,nx0,ok0,en0,X0,Y0,kl0,ops0,bb0,d1,d2,d3,rfl,hlast,hdl,rfl,G7,Vi,WP,LM,cK,e0⟩:=yF hw
 rw[hrr]at e0
 simp only[aI.seq.injEq,aI.region.injEq,aI.walk.injEq]at e0
 obtain⟨rfl,rfl,rfl,rfl,rfl,rfl,rfl,rfl,rfl,rfl,rfl⟩:=e0
 obtain⟨idA,opsA,rfl,hmA⟩:=oG hx
 obtain⟨y1,rfl,hy1⟩:=wC hy
 obtain⟨y2,rfl,hy2⟩:=Ks hy1
 obtain⟨y3,y4,rfl,hy3,hy4⟩:=tY hy2 rfl
 obtain⟨i2,ops2,rfl,LO⟩:=oG hy3
 obtain⟨y5,y6,rfl,hy5,hy6⟩:=tY hy4 rfl
 obtain⟨okO,y7,y8,rfl,kok,hy7,hy8⟩:=Ku hy5
 rw[Kr hy7,Kt hy8]
 obtain⟨y9,rfl,hy9⟩:=wC hy6
 obtain⟨y10,v,rfl,hy10,hv⟩:=tY hy9 LM
 obtain⟨i3,ops3,rfl,hm3⟩:=oG hy10
 have hds0:ds0=ds0.dropLast++[dl]:=by
  have hne0:ds0≠[]:=by intro h0;subst h0;simp at hlast
  rw[List.getLast?_eq_some_getLast hne0]at hlast
  cases hlast
  exact(List.dropLast_concat_getLast hne0).symm
 rw[hds0]at hmA
 obtain⟨lA,oR,eA,mA,cR⟩:=Ma hmA
 obtain⟨o1,r2,e2,k1,hr2⟩:∃ o1 r2,ops2.toList=o1::r2∧cZ P ops2.toList .write 0 o1=some d1∧r2.mapM (cZ P ops2.toList .write 0)=some [d2]:=by
  generalize ops2.toList=l at LO
  have:∀l0:List Oper,l.mapM (cZ P l0 .write 0)=some [d1,d2]→∃ o1 r2,l=o1::r2∧cZ P l0 .write 0 o1=some d1∧r2.mapM (cZ P l0 .write 0)=some [d2]:=by
   intro l0 hm
   cases l with
   | nil=>simp at hm
   | cons o r =>
    simp only[List.mapM_cons,Option.pure_def,Option.bind_eq_bind,Option.bind_eq_some_iff]at hm
    obtain⟨y,hy,ys,xA,h⟩:=hm
    cases h
    exact⟨o,r,rfl,hy,xA⟩
  exact this l LO
 obtain⟨o2,rfl,k2⟩:∃ o2,r2=[o2]∧cZ P ops2.toList .write 0 o2=some d2:=by
  obtain⟨l',o,e,h1,h2⟩:=Ma (r:=[]) hr2
  have hl:=bZ _ _ _ h1
  have:l'=[]:=List.length_eq_zero_iff.1 (by simpa using hl.symm)
  subst this
  exact⟨o,e,h2⟩
 obtain⟨o3,l3,e3,k3,k4⟩:∃ o3 l3,ops3.toList=o3::l3∧cZ P ops3.toList .write 0 o3=some d3∧l3.mapM (cZ P ops3.toList .write 0)=some ops:=by
  generalize ops3.toList=l at hm3
  have:∀l0:List Oper,l.mapM (cZ P l0 .write 0)=some (d3::ops)→∃ o3 l3,l=o3::l3∧cZ P l0 .write 0 o3=some d3∧l3.mapM (cZ P l0 .write 0)=some ops:=by
   intro l0 hm
   cases l with
   | nil=>simp at hm
   | cons o r =>
    simp only[List.mapM_cons,Option.pure_def,Option.bind_eq_bind,Option.bind_eq_some_iff]at hm
    obtain⟨y,hy,ys,xA,h⟩:=hm
    cases h
    exact⟨o,r,rfl,hy,xA⟩
  exact this l hm3
 obtain⟨g1,g2,g3,_,_⟩:=iF cR
 rw[hdl.2.1]at g1
 rw[hdl.2.2]at g2
 rw[hdl.1]at g3
 obtain⟨tR,xR,kT,eT,hoR,huR,hxR⟩:=Qt g1
 refine wp_seq (nA ?_)
 rw[eA]at mA g2 ⊢
 refine xZ fG lA ds0.dropLast h c env a env1 h1 mA he1 hR hE fun a1 w1 cS=>?_
 obtain⟨ρ1,hR1,hle1,hE1⟩:=cS
 generalize uM:c.next w1 ρ1 h1=cc at hR1 hle1 hE1
 have Xh:w1=cc.w:=by rw[←uM];rfl
 rw[Xh]
 obtain⟨m,es,hxm,hg,hwi,iD⟩:=Lc he2
 have dD:=bD hxR hE1
 rw[hxm]at dD
 obtain⟨mb,dD,hρ⟩:=dD.map_inv
 obtain⟨es',ents,clk,jX,Az,jJ,oO⟩:=hR1.mapo hg hρ
 have Fe:(getObj mb).run P cc.w=.ok (.map ents clk) cc.w:=by simp[getObj,Sem.run,Az]
 refine wpList_step fun K hK=>?_
 rw[if_pos (fT g2 hE1 rfl)]
 have hexR:(execOp a1.eval oR).run P cc.w=.ok (.value (.pointer (some ⟨cc.w.heap.size,0,none⟩))) {cc.w with heap:=cc.w.heap.push (.mapIter (some mb) clk #[] clk)}:=by
  simp[execOp,hoR,Instr.range,run_underlying huR,dD,Fe]
 unfold Oper.wp
 rw[hexR]
 refine hK _ _ (wpList_nil ?_)
 have hS:=hR1.shut hg hρ
 have hmlt:=cY hg
 generalize BY:({cc with E:=fun b=>cc.E b∨b=mb}:Ctx)=c1 at hS
 have hc1w:c1.w=cc.w:=by rw[←BY]
 have hbi:∀b,c1.E b→b≠cc.w.heap.size:=fun b hb=>by have:=(hS.pend b hb).1;rw[hc1w]at this;omega
 obtain⟨hA,hleA⟩:=hS.early (w':={cc.w with heap:=cc.w.heap.push (.mapIter (some mb) clk #[] clk)}) (by simp[hc1w]) (fun k hk=>by
  rw[hc1w]at hk ⊢
  simp only[Array.getElem?_push]
  rw[if_neg (by omega)]) (by rw[hc1w];exact .push rfl trivial rfl rfl)
 obtain⟨hB,hleB⟩:=hA.nameE cc.w.heap.size
 have pR:=hleA.trans hleB
 have hn1:(h1.set m .dead).n=h1.n:=rfl
 generalize hC3:(⟨{cc.w with heap:=cc.w.heap.push (.mapIter (some mb) clk #[] clk)},fun i=>if i=(h1.set m .dead).n then some (cc.w.heap.size,0)else c1.ρ i,fun b=>c1.O b∨b=c1.w.heap.size,c1.X,fun b=>c1.E b∨b=c1.w.heap.size,c1.τ⟩:Ctx)=C3 at hB pR
 have hC3w:C3.w={cc.w with heap:=cc.w.heap.push (.mapIter (some mb) clk #[] clk)}:=by rw[←hC3]
 have hC3E:C3.E=fun b=>c1.E b∨b=cc.w.heap.size:=by rw[←hC3,←hc1w]
 have hC3nm:C3.ρ h1.n=some (cc.w.heap.size,0):=by rw[←hC3];exact if_pos rfl
 have I:oT c1 mb cc.w.heap.size clk h1.n (rY h1 m) C3 #[]:=by
  refine⟨hB,⟨pR.rho,pR.size,pR.frame,pR.own,pR.shape,pR.X,fun b hb he=>⟨he,(pR.pend b hb (by rw[hC3E];exact .inl he)).2⟩,pR.quiet,pR.tok⟩,hC3E,by rw[←hC3],?_,hC3nm⟩
  rw[hC3w];simp
 have hE3:bY C3 (env1.set it (.ptr h1.n 0 0 0)) (a1.put oR.dst (.pointer (some ⟨cc.w.heap.size,0,none⟩))):=by
  have h0:bY C3 env1 a1:=⟨hE1.size,hE1.defers,fun i hi=>by
   have:=(hE1.val i hi).setE (fun b=>cc.E b∨b=mb)
   rw[BY]at this
   exact this.mono pR⟩
  have hp:VR C3 (.ptr h1.n 0 0 0) (.pointer (some ⟨cc.w.heap.size,0,none⟩)):=by
   have:=VR.ptr (sz:=0) (idx:=0) (off:=0) hC3nm
   simpa using this
  rw[←g3]
  exact h0.put hp (some it)
 rw[show({cc.w with heap:=cc.w.heap.push (.mapIter (some mb) clk #[] clk)}:World)=C3.w from hC3w.symm]
 show(Code.block X _).wp P Q _ C3.w
 refine wp_block (wp_loop_rounds (ents.size+1) ?_)
 have cC:es'.length=ents.size:=by simpa using jJ.1
 have hmap:((List.range ents.size).map fun j=>es'.getD j (.unk,.unk))=es':=by
  apply List.ext_getElem
  ·simp[cC]
  ·intro i h1 h2;simp at h1;simp[h2]
 have hc1E:c1.E mb:=by rw[←BY];exact .inr rfl
 have hwi0:=hwi
 unfold pK at hwi
 refine Oq (Fin:=fun e1 envx Jf=>e1=e∧∃ e2 env2 h2,tZ kl m es env1 h1 (.ok e1 envx Jf)=.ok e2 env2 h2∧aU=env2∧Et JS h'.objs h2.objs=true) fG (fun h c env a e aU h' Q hr hR hE hQ=>hcode v bb h c env a e aU h' Q hv hr hR hE hQ) e2 e3 k1 G7 k2 Vi k3 WP k4 kok cK hbi hc1E (ents:=ents) (by rw[hc1w];exact Az) oO (es':=es') ?_ ?_ ents.size (List.range ents.size) (by simp) List.nodup_range (fun j hj=>List.mem_range.1 hj) (rY h1 m) C3 _ _ #[] I hE3 (fun j hj=>by simp[hj]) ?_
 ·refine⟨jJ.1,fun i e1 m1 h3 h4=>?_⟩
  have:=jJ.2 i e1 m1 h3 h4
  have q1:=this.1.setE (fun b=>cc.E b∨b=mb)
  have q2:=this.2.setE (fun b=>cc.E b∨b=mb)
  rw[BY]at q1 q2
  exact⟨q1,q2⟩
 ·rintro e1 envx Jf C ax seen ⟨rfl,e2',env2,h2,tO,R9,hz⟩ IC hEC
  obtain⟨_,_,hh',_⟩:∃ e3 env3 h3,tZ kl m es env1 h1 (.ok e3 env3 h3)=.ok e1 aU h':=by
   cases DZ:rounds call run it nx ok en X Y h1.n ops bb es (env1.set it (.ptr h1.n 0 0 0)) (rY h1 m)with
   | fail=>rw[DZ]at hwi;cases hwi
   | ok e3 env3 h3=>rw[DZ]at hwi;exact⟨e3,env3,h3,hwi⟩
  rename_i hcl'
  obtain⟨_,_,rfl,_,_,_⟩:=zH hcl'
  have cS:=Wl hR1 hg hρ jX Az oO jJ hE1 (by rw[BY];exact IC) hEC tO R9 (by rfl) (by rfl) hz
  rw[←uM]at cS
  exact hQ _ _ (cS.trans (by rw[uM];exact hle1))
 ·intro l hl
  rw[hmap]at hl
  have hp:=iD l (AT (hl.trans jX.symm))
  unfold pK at hp
  cases DZ:rounds call run it nx ok en X Y h1.n ops bb l (env1.set it (.ptr h1.n 0 0 0)) (rY h1 m)with
  | fail=>rw[DZ]at hp;simp[tZ,CL]at hp
  | ok e3 env3 h3 =>
   rw[DZ]at hp
   cases tO:tZ kl m es env1 h1 (.ok e3 env3 h3)with
   | fail=>rw[tO]at hp;simp[CL]at hp
   | ok e4 env4 h4 =>
    rw[tO]at hp
    simp only[CL,Bool.and_eq_true,decide_eq_true_eq]at hp
    obtain⟨q1,_⟩:=zH tO
    exact⟨e3,env3,h3,rfl,by rw[hp.1,q1],e4,env4,h4,tO,nI _ _ hp.2.1,hp.2.2⟩
theorem Kv(G:La P D):∀n m,m≤n→xL P D m∧Mu P D m:=by
 intro n
 induction n with
 | zero =>
  intro m hm
  rw[Nat.le_zero.1 hm]
  refine⟨fun code dc h c env a e aU h' Q _ he=>?_,fun code dc h c env a e aU h' Q _ he=>?_⟩
  ·cases he
  ·cases he
 | succ n ih =>
  intro m hm
  rcases Nat.lt_or_ge m (n+1)with aY|WO
  ·exact ih m (by omega)
  rw[Nat.le_antisymm hm WO]
  obtain⟨iC,iL⟩:=ih n (Nat.le_refl _)
  have fG:=vX G iC
  have Hl:=qW (run:=dB D n) G.keep (Ib G.keep n)
  refine⟨?_,?_⟩
  ·intro code dc h c env a e aU h' Q uM he hR hE hQ
   unfold bP at uM
   split at uM
   ·cases uM
    simp only[dB]at he
    cases he
    exact wp_skip (hQ _ _ ⟨c.ρ,by rw[hR.same];exact⟨hR,.refl c,hE⟩⟩)
   ·rename_i x y
    split at uM
    ·rename_i _ _ dx dy hx hy
     cases uM
     cases hw:uQ dx dy with
     | some r =>
      obtain⟨ds,dl,x0,it,nx,ok,en,X,Y,kl,ops,bb,d1,d2,d3,_,_,_,_,_,_,_,_,_,hr⟩:=yF hw
      unfold Ha at he
      rw[hw,hr]at he
      simp only[Option.getD_some,dB]at he
      cases n with
      | zero=>simp only[dB]at he;cases he
      | succ k =>
       simp only[dB]at he
       split at he
       ·rename_i env1 h1 h2
        split at h2
        ·rename_i h3
         cases h2
         obtain⟨jC,jL⟩:=ih k (Nat.le_succ _)
         exact Xq (r1:=dx) (vX G jC) jC hx hy hw hr h3 he hR hE hQ
        ·cases h2
       ·rename_i cK
        split at he
        ·rename_i h3;exact absurd (by rw[h3]) (cK _ _)
        ·cases he
     | none =>
     unfold Ha at he
     rw[hw]at he
     simp only[Option.getD_none,dB]at he
     refine wp_seq ?_
     split at he
     ·rename_i env1 h1 h2
      refine iC x dx h c env a .normal env1 h1 _ hx h2 hR hE fun a' w' cS=>?_
      obtain⟨ρ',k1,k2,k3⟩:=cS
      show y.wp P Q a' w'
      exact iC y dy h1 (c.next w' ρ' h1) env1 a' e aU h' Q hy he k1 k3 fun a2 w2 Hh=>hQ _ _ (Hh.trans k2)
     ·rename_i cK
      refine iC x dx h c env a e aU h' _ hx he hR hE fun a' w' cS=>?_
      have:=hQ a' w' cS
      cases e with
      | normal=>exact absurd he (cK aU h')
      | exit id=>exact this
      | ret=>exact this
    ·cases uM
   ·rename_i cd x y
    split at uM
    ·rename_i _ _ _ cd' dx dy h1 h2 h3
     cases uM
     simp only[dB]at he
     have hv:=bD h1 hE
     split at he
     ·rename_i hcv
      rw[hcv]at hv
      exact wp_cond_true hv.bool_inv (iC x dx h c env a e aU h' Q h2 he hR hE hQ)
     ·rename_i hcv
      rw[hcv]at hv
      exact wp_cond_false hv.bool_inv (iC y dy h c env a e aU h' Q h3 he hR hE hQ)
     ·cases he
    ·cases uM
   ·rename_i id b
    split at uM
    ·rename_i _ db hb
     cases uM
     simp only[dB]at he
     refine wp_block ?_
     split at he
     ·rename_i id' env1 h1 h2
      split at he
      ·rename_i eF
       cases he
       exact iC b db h c env a (.exit id') _ _ _ hb h2 hR hE fun a' w' cS=>by
        show Exit.inBlock id Q (.exit id') a' w'
        simp only[Exit.inBlock,eF,if_true]
        exact hQ a' w' cS
      ·rename_i eF
       cases he
       exact iC b db h c env a (.exit id') _ _ _ hb h2 hR hE fun a' w' cS=>by
        show Exit.inBlock id Q (.exit id') a' w'
        simp only[Exit.inBlock,eF,if_false]
        exact hQ a' w' cS
     ·rename_i cK
      refine iC b db h c env a e aU h' _ hb he hR hE fun a' w' cS=>?_
      have:=hQ a' w' cS
      cases e with
      | normal=>exact this
      | exit id'=>exact absurd he (cK id' aU h')
      | ret=>exact this
    ·cases uM
   ·rename_i b
    split at uM
    ·rename_i _ db hb
     cases uM
     refine wp_loop_rounds (n+1) ?_
     rw[rounds_succ]
     simp only[dB]at he
     split at he
     ·rename_i env1 h1 h2
      refine iC b db h c env a .normal env1 h1 _ hb h2 hR hE fun a' w' cS=>?_
      obtain⟨ρ',k1,k2,k3⟩:=cS
      show Code.rounds P b Q n a' w'
      exact iL b db h1 (c.next w' ρ' h1) env1 a' e aU h' Q hb he k1 k3 fun a2 w2 Hh=>hQ _ _ (Hh.trans k2)
     ·rename_i cK
      refine iC b db h c env a e aU h' _ hb he hR hE fun a' w' cS=>?_
      have:=hQ a' w' cS
      cases e with
      | normal=>exact absurd he (cK aU h')
      | exit id=>exact this
      | ret=>exact this
    ·cases uM
   ·cases uM
    simp only[dB]at he
    cases he
    exact wp_exit (hQ _ _ ⟨c.ρ,by rw[hR.same];exact⟨hR,.refl c,hE⟩⟩)
   ·cases uM
    simp only[dB]at he
    cases he
    exact wp_ret (hQ _ _ ⟨c.ρ,by rw[hR.same];exact⟨hR,.refl c,hE⟩⟩)
   ·rename_i id ops draw
    cases draw with
    | false =>
     simp only[fD,Bool.false_eq_true,if_false]at uM
     split at uM
     ·rename_i ds Dx
      cases uM
      simp only[dB]at he
      split at he
      ·rename_i env1 h1 gB
       cases he
       exact wp_region_list (by
        have:=wV fG (ops:=ops.toList) (Q:=Q) ops.toList ds h c env a _ _ Dx gB hR hE hQ
        simpa using this)
      ·cases he
     ·cases uM
    | true =>
     have hdc:∃ ds,dc=.draw ds:=by
      obtain⟨bQ,bs,e,_⟩:=eI uM
      exact⟨_,e⟩
     obtain⟨ds,rfl⟩:=hdc
     simp only[dB]at he
     split at he
     ·rename_i env1 h1 gB
      cases he
      exact K8 G.mixed uM Hl fG gB hR hE hQ
     ·cases he
   ·cases uM
  ·intro code dc h c env a e aU h' Q uM he hR hE hQ
   rw[rounds_succ]
   simp only[dB]at he
   split at he
   ·rename_i env1 h1 h2
    refine iC code dc h c env a .normal env1 h1 _ uM h2 hR hE fun a' w' cS=>?_
    obtain⟨ρ',k1,k2,k3⟩:=cS
    show Code.rounds P code Q n a' w'
    exact iL code dc h1 (c.next w' ρ' h1) env1 a' e aU h' Q uM he k1 k3 fun a2 w2 Hh=>hQ _ _ (Hh.trans k2)
   ·rename_i cK
    refine iC code dc h c env a e aU h' _ uM he hR hE fun a' w' cS=>?_
    have:=hQ a' w' cS
    cases e with
    | normal=>exact absurd he (cK aU h')
    | exit id=>exact this
    | ret=>exact this
theorem Il(G:La P D)(n:Nat):xL P D n∧Mu P D n:=Kv G n n (Nat.le_refl _)
theorem Io(G:La P D)(n:Nat):iM P (Ir D n):=vX G (Il G n).1
end
end Go.Dm
/-
Part 28 of "Dm": a call of a function wO arguments from outside; the table of the functions.
-/
namespace Go.Dm
open Go.RowKit
def jA:aA:={objs:=[],n:=0,lim:=0}
def Ig(w:World)(τ:Nat→Value:=fun _=>undef):Ctx:=⟨w,fun _=>none,fun _=>False,fun _=>False,fun _=>False,τ⟩
theorem Cs(id:Nat):jA.get id=none:=by simp[aA.get,jA]
def Ky(w:World):Prop:=∀b v,Qk=some (b,v)→b<w.heap.size∧w.cell? ⟨b,0,none⟩=some v
theorem m6(w:World)(hg:Ky w)(τ:Nat→Value:=fun _=>undef):Rel jA (Ig w τ) :=
 ⟨rfl,Nat.le_refl _,fun id h=>absurd rfl h,fun id o h=>(by rw[Cs]at h;cases h),fun i j oi oj b x y hi=>(by rw[Cs]at hi;cases hi),fun b=>⟨fun h=>h.elim,fun h=>by
  rcases h with⟨id,o,x,hg,_⟩|h
  ·rw[Cs]at hg;cases hg
  ·exact h.elim⟩,fun b h=>h.elim,fun b h=>h.elim,fun b h=>h.elim,fun b v hv=>⟨(hg b v hv).1,fun h=>h,(hg b v hv).2⟩⟩
def LE(W w':World):Prop:=W.keptBut w' (fun _=>False)∧(∀a,a.block<W.heap.size→w'.frozen? a=W.frozen? a)∧W.heap.size≤w'.heap.size
theorem LE.frame{W w':World}(h:LE W w')(may:MemPlace→Prop):W.keptBut w' may:=World.keptBut_mono (fun _ f=>f.elim) h.1
theorem Vk{w:World}{τ:Nat→Value}{c:Ctx}(h:bI (Ig w τ) c):LE w c.w:=by
 refine⟨⟨h.quiet.os,h.quiet.out,fun i hi=>?_⟩,h.quiet.froz,h.size⟩
 have:=(World.keptBut_refl w (fun _=>False)).2.2 i hi
 rw[h.frame i hi (fun h=>h)]
 exact this
open Go.ChangeShapes Go.WideShapes in
theorem AR{H:Type}{enc:TypeId×Value→H}{P:Program}{f:Func}{s:ChangeSpec}{oP fresh handsOn again:Bool}{W W':World}{args:Array Value}{v:Value}{ds gs:List (DataW H)}{before pa pv:List MemPlace}
  (hW:DataW.Whole enc P f.params.toList s.vars oP W args.toList ds gs before)
  (hres:∀(b:Nat) (sp:Nat→Bool) (hd:Bool),DataW.TrodAll enc P W' b sp hd f.resultTypes.toList (v.resultList f.resultTypes.size) (s.fn H (ds++gs)).results [])
  (hargs:∀sp:Nat→Bool,(∀p∈before,sp p.block=true)→DataW.TrodAll enc P W' 0 sp true f.params.toList args.toList (s.fn H (ds++gs)).args pa)
  (hvars:∀sp:Nat→Bool,(∀p∈before,sp p.block=true)→DataW.TrodVars enc P W' sp s.vars (s.fn H (ds++gs)).vars pv)
  (BU:before=pa++pv) (hk:W.keptBut W' (·∈before)) (hfz:∀a,a.block<W.heap.size→W'.frozen? a=W.frozen? a)
  (hok:∀(j:Nat) (t:TypeId) (r:Value),f.resultTypes[j]?=some t→(v.resultList f.resultTypes.size)[j]?=some r→Value.okWide P W' .any 0 t r) :
  s.post enc P f oP fresh handsOn again W args v W':=by
 have hold:∀p∈before,(fun b=>decide (b<W.heap.size)) p.block=true:=fun p hp=>by simpa using hW.lt p hp
 have aY:=hW.lt
 refine⟨ds,gs,before,[],pa,pv,hW,hres _ _ _,hargs _ hold,hvars _ hold,World.keptBut_mono (fun p hp=>⟨hp,?_⟩) hk,fun _=>?_⟩
 ·rw[BU,List.mem_append]at hp
  exact Or.inr hp
 ·obtain⟨_,_,_,_,_,hz,hn⟩:=hW
  refine⟨hok,_,_,([]++pa)++pv,⟨[]++pa,pv,trodAll_append (hargs _ (fun _ _=>rfl)) (hres _ _ _),hvars _ (fun _ _=>rfl),rfl,?_,?_⟩,?_⟩
  ·intro b off hp
   rw[hfz _ (aY (.cell b off) (by rw[BU];simpa using hp))]
   exact hz b off (by rw[BU];simpa using hp)
  ·intro ha
   have:=hn ha
   rw[BU]at this
   simpa using this
  ·intro p hp _
   rw[BU]
   simpa using hp
def Ej(P:Program)(tab:List (Nat×aL)):Prop:=∀x,x∈tab→∃ fn,P.funcs[x.1]?=some fn∧aD P fn x.2.mode=some x.2
theorem Ej.nil{P:Program}:Ej P []:=fun x hx=>by cases hx
theorem Ej.cons{P:Program}{f:Nat}{df:aL}{fn:Func}{tab:List (Nat×aL)}(h1:P.funcs[f]?=some fn)(h2:aD P fn df.mode=some df)(h:Ej P tab):Ej P ((f,df)::tab):=fun x hx=>by
 rcases List.mem_cons.1 hx with rfl|hx
 ·exact⟨fn,h1,h2⟩
 ·exact h x hx
def R4:List (Nat×aL)→Nat→Option aL
 | [],_=>none
 | (k,d)::r,f=>if Nat.beq k f then some d else R4 r f
theorem BK{tab:List (Nat×aL)}{f:Nat}{d:aL}(h:R4 tab f=some d):(f,d)∈tab:=by
 induction tab with
 | nil=>cases h
 | cons x r ih =>
  obtain⟨k,d'⟩:=x
  simp only[R4]at h
  split at h
  ·rename_i he
   cases h
   rw[Nat.eq_of_beq_eq_true he]
   exact List.mem_cons_self ..
  ·exact List.mem_cons_of_mem _ (ih h)
end Go.Dm
/-
Part 30 of "Dm": what stands in the place of functions wO a body; tables with hooks.
-/
namespace Go.Dm
def mY(P:Program)(f:Nat)(hk:qJ):Prop :=
 (∀args h d h' c vals,hk h args=some (d,h')→Rel h c→VRs c args vals→Jd P f vals.toArray h c h' d)∧∀h args v h',h.lim≤h.n→hk h args=some (v,h')→dU h h'
def cX:qJ:=fun h args =>
 match args with
 | [.sl i1 s1 _ _,.sl i2 s2 _ _] =>
  match h.get i1,h.get i2 with
  | some (.arr _ z1 _ _),some (.arr _ z2 xs _)=>if i1≠i2∧s1=z1∧s2=z2∧xs.length≠0 then some (.bool false,h)else none
  | _,_=>none
 | _=>none
theorem nL {P : Program} {f : Nat} {fn : Func} {tS tR e : TypeId} (hf : P.funcs[f]? = some fn) (Au : (fn.name == "runtime.NumGoroutine") = false) (hb : fn.body.isNone = true) (hn : Extern.findNext fn = none)
  (he:Extern.find fn=some (Extern.SlicesOverlaps.overlaps #[tS,tS] #[tR])) (ht:P.underlying tS=some (.slice e)) (hi:(P.info? e).isSome=true):mY P f cX:=by
 obtain⟨i,hi⟩:=Option.isSome_iff_exists.1 hi
 refine⟨fun args h d h' c vals hs hR hv=>?_,fun h args v h' _ hs=>?_⟩
 ·unfold cX at hs
  split at hs
  ·rename_i i1 s1 o1 l1 i2 s2 o2 l2
   split at hs
   ·rename_i e1 z1 x1 c1 e2 z2 x2 c2 g1 g2
    split at hs
    ·rename_i bS
     obtain⟨cK,hs1,hs2,hx⟩:=bS
     cases hs
     have hl:=hv.1
     obtain⟨v1,v2,rfl⟩:∃ v1 v2,vals=[v1,v2]:=by
      cases vals with
      | nil=>simp at hl
      | cons a r=>cases r with
       | nil=>simp at hl
       | cons b r=>cases r with
        | nil=>exact⟨a,b,rfl⟩
        | cons c r=>simp at hl
     have w1:VR c (.sl i1 s1 o1 l1) v1:=hv.2 0 (by simp) (by simp)
     have w2:VR c (.sl i2 s2 o2 l2) v2:=hv.2 1 (by simp) (by simp)
     obtain⟨b1,base1,cap1,co1,n1,ty1,e1',r1,_⟩:=w1.sl_inv
     obtain⟨b2,base2,cap2,co2,n2,ty2,e2',r2,_⟩:=w2.sl_inv
     obtain⟨cur1,m1,p1,p2,p3,p4,p5,p6⟩:=hR.arr g1 r1
     obtain⟨cur2,m2,q1,q2,q3,q4,q5,q6⟩:=hR.arr g2 r2
     have hbne:b1≠b2:=fun eb=>cK (hR.inj i1 i2 _ _ b1 base1 base2 g1 g2 rfl rfl r1 (eb ▸ r2))
     have yV:∀a:Addr,a.block=b1→c.w.frozen? a=false:=fun a ha=>nU (ob:=.cells cur1 e1 (0,0)) (by rw[ha];exact p1) rfl
     refine .inl ⟨.bool false,c.w,?_,jS.pure hR (.bool false)⟩
     rw[run_callFunc_extern hf Au hb hn he]
     have gB:=Lib.run_overlaps_apart (P:=P) c.w tS tR e ht i.size (fun w=>by simp[sizeOf,typeInfo,hi]) ⟨b1,co1,none⟩ ⟨b2,co2,none⟩ l1 cap1 l2 cap2 hbne e1 e2 cur1.size cur2.size (dN p1) (dN q1)
      (by
       have:0<m2*z2:=Nat.mul_pos (by omega) q2
       omega) (yV _ rfl) (yV _ rfl)
     rw[e1',e2',gB]
     rfl
    ·cases hs
   ·cases hs
  ·cases hs
 ·unfold cX at hs
  split at hs
  ·split at hs
   ·split at hs
    ·cases hs;exact .refl _
    ·cases hs
   ·cases hs
  ·cases hs
def rB(P:Program)(hooks:List (Nat×qJ)):Prop:=∀x,x∈hooks→mY P x.1 x.2
theorem rB.nil{P:Program}:rB P []:=fun x hx=>by cases hx
theorem rB.cons{P:Program}{f:Nat}{hk:qJ}{hooks:List (Nat×qJ)}(h1:mY P f hk)(h:rB P hooks):rB P ((f,hk)::hooks):=fun x hx=>by
 rcases List.mem_cons.1 hx with rfl|hx
 ·exact h1
 ·exact h x hx
def R5:List (Nat×qJ)→Nat→Option qJ
 | [],_=>none
 | (k,d)::r,f=>if Nat.beq k f then some d else R5 r f
theorem Mb{hooks:List (Nat×qJ)}{f:Nat}{d:qJ}(h:R5 hooks f=some d):(f,d)∈hooks:=by
 induction hooks with
 | nil=>cases h
 | cons x r ih =>
  obtain⟨k,d'⟩:=x
  simp only[R5]at h
  split at h
  ·rename_i he
   cases h
   rw[Nat.eq_of_beq_eq_true he]
   exact List.mem_cons_self ..
  ·exact List.mem_cons_of_mem _ (ih h)
def Px(tab:List (Nat×aL))(hooks:List (Nat×qJ)):bU:={fn:=R4 tab,hook:=R5 hooks}
theorem At{P:Program}{tab:List (Nat×aL)}{hooks:List (Nat×qJ)}(hm:P.follows .mixedOrders=true)(ht:Ej P tab)(hh:rB P hooks):La P (Px tab hooks) where
 mixed:=hm
 comp:=fun f df h=>ht (f,df) (BK h)
 hooks:=fun f hk h=>(hh (f,hk) (Mb h)).1
 keep:=fun f hk h=>(hh (f,hk) (Mb h)).2
end Go.Dm
/-
Part 36 of "Dm": what stands in the place of the comparing of two texts (a function wO a body).
-/
namespace Go.Dm
def nT:qJ:=fun h args =>
 match args with
 | [.str a,.str b]=>some (.int .i64 (Go.Lib.compareBytes a b),h)
 | _=>none
theorem L6 {P : Program} {f : Nat} {fn : Func} (hf : P.funcs[f]? = some fn) (Au : (fn.name == "runtime.NumGoroutine") = false) (hb : fn.body.isNone = true) (hn : Extern.findNext fn = none)
  (he:Extern.find fn=some Extern.BytealgCompare.compare):mY P f nT:=by
 refine⟨fun args h d h' c vals hs hR hv=>?_,fun h args v h' _ hs=>?_⟩
 ·unfold nT at hs
  split at hs
  ·rename_i a b
   cases hs
   have hl:=hv.1
   obtain⟨v1,v2,rfl⟩:∃ v1 v2,vals=[v1,v2]:=by
    cases vals with
    | nil=>simp at hl
    | cons a r=>cases r with
     | nil=>simp at hl
     | cons b r=>cases r with
      | nil=>exact⟨a,b,rfl⟩
      | cons c r=>simp at hl
   have w1:VR c (.str a) v1:=hv.2 0 (by simp) (by simp)
   have w2:VR c (.str b) v2:=hv.2 1 (by simp) (by simp)
   have e1:=w1.str_inv
   have e2:=w2.str_inv
   subst e1
   subst e2
   refine .inl ⟨.int .i64 (Go.Lib.compareBytes a b),c.w,?_,jS.pure hR (.int .i64 _)⟩
   rw[run_callFunc_extern hf Au hb hn he]
   have gB:=Lib.run_compareString (P:=P) ⟨a.toArray⟩ ⟨b.toArray⟩ c.w
   simp only at gB
   rw[gB]
   rfl
  ·cases hs
 ·unfold nT at hs
  split at hs
  ·cases hs;exact .refl _
  ·cases hs
end Go.Dm
/-
Part 32 of "Dm": what stands in the place of slices.Clone: whether a slice wO elements is nil is not asked.
-/
namespace Go.Dm
def bW(ety sz bytes:Nat):qJ:=fun h args =>
 match args with
 | [v]=>match elems h sz v with
  | some ys =>
   if ys.isEmpty then some (.nsl,h.push .dead)
   else if ys.length*bytes≤140737488355328∧ys.length≤9223372036854775807 then some (.sl (h.n+1) sz 0 ys.length,(h.push (.arr ety sz [] (some 0))).push (.arr ety sz ys none))
   else none
  | none=>none
 | _=>none
def u6:bU:={fn:=fun _=>none,hook:=fun _=>none}
theorem C8{P:Program}(hm:P.follows .mixedOrders=true):La P u6 where
 mixed:=hm
 comp:=fun f df h=>by cases h
 hooks:=fun f hk h=>by cases h
 keep:=fun f hk h=>by cases h
theorem J4{h:aA}{o:DO}{sz:Nat}{v:DV}{ys:List DV}(he:elems h sz v=some ys):elems (h.push o) sz v=some ys:=by
 unfold elems at he ⊢
 split at he
 ·exact he
 ·exact he
 ·split at he
  ·rename_i hg
   rw[aG (cY hg),hg]
   exact he
  ·cases he
 ·cases he
theorem Rel.pushDead{h:aA}{c:Ctx}(hR:Rel h c):∃ ρ',Rel (h.push .dead) (c.next c.w ρ' (h.push .dead))∧bI c (c.next c.w ρ' (h.push .dead)):=by
 obtain⟨k1,k2⟩:=hR.push .dead c.w c.w.heap.size 0 (Nat.le_refl _) (Nat.le_refl _) (fun _ _=>rfl) (.refl _) (fun _=>trivial)
 exact⟨_,k1,k2⟩
theorem AO{h:aA}{o:DO}:(h.push o).set h.n .dead=h.push .dead:=by
 simp[aA.push,aA.set]
theorem Ok{P:Program}{t e:TypeId}(hu:P.underlying t=some (.slice e))(ad:Option Addr)(n cap:Nat)(k:Nat)(w:World) :
  (Op.equalIn (k+1) t (.slice ad n cap) (.slice none 0 0)).run P w=.ok ad.isNone w:=by
 cases ad<;>simp[Op.equalIn,run_underlying hu]
theorem Ta{P:Program}{t e:TypeId}(hu:P.underlying t=some (.slice e))(ad:Option Addr)(n cap:Nat)(w:World) :
  (Op.equal t (.slice ad n cap) (.slice none 0 0)).run P w=.ok ad.isNone w:=Ok hu ad n cap 9999 w
structure kW(P:Program)(fn:Func)(ety sz bytes:Nat)(z:DV) where
 (r0 r1 r2 r3:Nat) (os0 os2 os3:Array Oper) (o2 o3:Oper) (t u:TypeId) (e:TypeId)
 body:fn.body=some (.seq (.region r0 os0 false) (.seq (.seq (.region r1 #[o2,o3] false) (.cond (.tmp 4) (.seq (.region r2 os2 false) .ret) .skip)) (.seq (.region r3 os3 false) .ret)))
 hA:bP P (.region r0 os0 false)=some (.region [⟨some 2,.move (.c .nsl),none,.write,0,false⟩])
 h2:cZ P [o2,o3] .write 0 o2=some ⟨some 3,.move (.t 0),none,.write,0,false⟩
 h3:o3.op=.binOp .eql t (.tmp 3) (.const (.slice none 0 0)) u
 h3d:o3.dst=some 4
 h3g:o3.guard.isNone=true
 hu:P.underlying t=some (.slice e)
 hC:bP P (.seq (.region r2 os2 false) .ret)=some (.seq (.region [⟨some 2,.move (.c .nsl),none,.write,0,false⟩]) .ret)
 hD:bP P (.seq (.region r3 os3 false) .ret)=some (.seq (.region [⟨some 5,.buildSlice ety sz z 0 [],none,.write,0,false⟩,⟨some 6,.move (.t 0),none,.write,0,false⟩,⟨some 7,.append ety sz bytes (.t 5) (.t 6),none,.write,0,false⟩,⟨some 2,.move (.t 7),none,.write,0,false⟩]) .ret)
 nt:fn.ntmps=8
 rs:fn.results=#[.tmp 2]
theorem qB {P : Program} {f : Nat} {fn : Func} {ety sz bytes : Nat} {z : DV} (hm : P.follows .mixedOrders = true) (hf : P.funcs[f]? = some fn) (Au : (fn.name == "runtime.NumGoroutine") = false) (T : kW P fn ety sz bytes z) :
  mY P f (bW ety sz bytes):=by
 refine⟨fun args h d h' c vals hs hR hv=>?_,fun h args v h' hl hs=>?_⟩
 ·unfold bW at hs
  split at hs
  ·rename_i x
   split at hs
   ·rename_i ys xA
    obtain⟨v,rfl⟩:∃ v,vals=[v]:=by
     have:=hv.1
     cases vals with
     | nil=>simp at this
     | cons a r=>cases r with
      | nil=>exact⟨a,rfl⟩
      | cons b r=>simp at this
    have dD:VR c x v:=hv.2 0 (by simp) (by simp)
    obtain⟨ad,cap,news,e1,e2,e3,e4,e5⟩:=kR hR xA dD
    have Ff:=(Il (C8 hm) 3).1
    have hname' : fn.name ≠ "runtime.NumGoroutine" := by simpa using Au
    refine .inr ⟨f,#[v],jD hf T.body hname' _ _,?_⟩
    refine calls_of_wp hf T.body ?_
    have hE0:bY c [x,bH,bH,bH,bH,bH,bH,bH] {tmps:=#[v]++Array.replicate (fn.ntmps-1) Go.undef,defers:=[]}:=by
     have:=Ml hv 8
     rw[T.nt]
     exact this
    have hend:∀(aU:Env) (h1:aA) (a':Act) (w':World),St c h1 aU a' w'→∀d1,aU[2]?=some d1→(∀ρ' u,Rel h1 (c.next w' ρ' h1)→bI c (c.next w' ρ' h1)→VR (c.next w' ρ' h1) d1 u→jS h c h' w' d u) →
      (a'.defers=[]∧∃ u,(results fn a'.tmps).run P w'=.ok u w'∧sT h c h' d (.returned u) w'):=by
     intro aU h1 a' w' cS d1 G7 As
     obtain⟨ρ',k1,k2,k3⟩:=cS
     obtain⟨aY,hd1'⟩:=List.getElem?_eq_some_iff.1 G7
     have hvr:=k3.val 2 aY
     rw[hd1']at hvr
     refine⟨k3.defers,a'.tmps.getD 2 Go.undef,?_,_,rfl,As ρ' _ k1 k2 hvr⟩
     rw[Gn,T.rs]
     simp[uY]
    refine wp_seq ?_
    refine Ff _ _ h c _ _ .normal ([x,bH,.nsl,bH,bH,bH,bH,bH]) h _ T.hA rfl hR hE0 fun a1 w1 hst1=>?_
    obtain⟨ρ1,k1,k2,k3⟩:=hst1
    show Code.wp P _ _ a1 w1
    refine wp_seq ?_
    refine wp_seq ?_
    refine wp_region_list ?_
    refine wpList_step fun K hK=>?_
    obtain⟨c1,c2,c3,_,_⟩:=iF T.h2
    have ks1:Rel h (c.next w1 ρ1 h):=k1
    rw[if_pos (by
     have:=fT (ops:=[T.o2,T.o3]) (c:=c.next w1 ρ1 h) (b:=true) c2 k3 rfl
     exact this)]
    refine sC (P:=P) (call:=fun _ _ _=>none) (fun f args h d h' c vals hc=>by cases hc) c1 ks1 k3 (r:=x) (h':=h) (by rfl) K _ fun u2 w2 EA=>?_
    obtain⟨ρ2,q1,q2,q3⟩:=EA
    rw[Ci]at q1 q2 q3
    refine hK _ _ ?_
    have c3':T.o2.dst=some 3:=c3.symm
    have hE2:bY (c.next w2 ρ2 h) [x,bH,.nsl,x,bH,bH,bH,bH] (a1.put T.o2.dst u2):=by
     rw[c3']
     exact(k3.mono q2).put q3 (some 3)
    refine wpList_step fun K2 hK2=>?_
    rw[if_pos (by
     have:=T.h3g
     have:T.o3.guard=none:=by simpa using this
     simp[Region.wanted,this])]
    have hx3:(a1.put T.o2.dst u2).eval (.tmp 3)=u2:=by
     have dX:3<a1.tmps.size:=by rw[k3.size];simp
     rw[c3']
     simp[Act.eval,Act.put,dX]
    obtain⟨ad2,cap2,news2,f1,f2,f3,f4,f5⟩:=kR q1 xA q3
    have LV:(execOp (a1.put T.o2.dst u2).eval T.o3).run P w2=.ok (.value (.bool ad2.isNone)) w2:=by
     have hc4:(a1.put T.o2.dst u2).eval (.const (.slice none 0 0))=.slice none 0 0:=rfl
     have hg:(eqGuard .eql T.t (.tmp 3) (.const (.slice none 0 0)) (.slice ad2 ys.length cap2) (.slice none 0 0)).run P w2=.ok () w2:=by
      unfold eqGuard;simp
     have hb:(binOp .eql T.t (.slice ad2 ys.length cap2) (.slice none 0 0)).run P w2=.ok (.bool ad2.isNone) w2:=by
      simp[binOp,Ta T.hu]
     simp[execOp,T.h3,hx3.trans f1,hc4,hg,hb]
    have ho3:QU P T.o3 (a1.put T.o2.dst u2) h (c.next w2 ρ2 h) h (.bool ad2.isNone):=by
     intro K Q hK
     unfold Oper.wp
     rw[show(c.next w2 ρ2 h).w=w2 from rfl,LV]
     exact hK _ w2 (jS.pure q1 (.bool _))
    refine ho3 K2 _ fun u3 w3 hp3=>?_
    obtain⟨ρ3,p1,p2,p3⟩:=hp3
    rw[Ci]at p1 p2 p3
    refine hK2 _ _ ?_
    have hE3:bY (c.next w3 ρ3 h) [x,bH,.nsl,x,.bool ad2.isNone,bH,bH,bH] ((a1.put T.o2.dst u2).put T.o3.dst u3):=by
     rw[T.h3d]
     exact(hE2.mono p2).put p3 (some 4)
    have pR:bI c (c.next w3 ρ3 h):=(k2.trans q2).trans p2
    have ht4:((a1.put T.o2.dst u2).put T.o3.dst u3).eval (.tmp 4)=.bool ad2.isNone:=by
     have:=hE3.val 4 (by simp)
     have:=this.bool_inv
     simpa[Act.eval]using this
    refine wpList_nil ?_
    show Code.wp P _ _ _ w3
    cases had:ad2 with
    | none =>
     rw[had]at ht4
     refine wp_cond_true ht4 ?_
     refine Ff _ _ h (c.next w3 ρ3 h) _ _ .ret ([x,bH,.nsl,x,.bool ad2.isNone,bH,bH,bH]) h _ T.hC (by rfl) p1 hE3 fun a4 w4 F6=>?_
     have hst4':St c h [x,bH,.nsl,x,.bool ad2.isNone,bH,bH,bH] a4 w4:=F6.trans pR
     have hy:ys=[]:=f4 had
     rw[if_pos (by rw[hy];rfl)]at hs
     cases hs
     refine hend _ h a4 w4 hst4' .nsl rfl fun ρ' u g1 g2 g3=>?_
     obtain⟨ρ'',m1,m2⟩:=g1.pushDead
     exact⟨ρ'',m1,g2.trans m2,g3.mono m2⟩
    | some adr =>
     rw[had]at ht4
     refine wp_cond_false ht4 ?_
     refine wp_skip ?_
     show Code.wp P _ _ _ w3
     have nR:=J4 (o:=.arr ety sz [] (some 0)) xA
     by_cases hy:ys.isEmpty=true
     ·rw[if_pos hy]at hs
      cases hs
      have hyn:ys=[]:=by simpa using hy
      refine Ff _ _ h (c.next w3 ρ3 h) _ _ .ret ([x,bH,.sl h.n sz 0 0,x,.bool ad2.isNone,.sl h.n sz 0 0,x,.sl h.n sz 0 0]) (h.push (.arr ety sz [] (some 0))) _ T.hD
       (by simp[dB,eM,fU,bC,aC,Opd.eval,Dm.put,cW,nR,bF,hyn]) p1 hE3 fun a4 w4 F6=>?_
      have hst4':=F6.trans pR
      refine hend _ _ a4 w4 hst4' (.sl h.n sz 0 0) rfl fun ρ' u g1 g2 g3=>?_
      obtain⟨b,base,fA,gK,nn,lP,rfl,hρ,dV,yU,Ay,Eo⟩:=g3.sl_inv
      have WN:(h.push (.arr ety sz [] (some 0))).get h.n=some (.arr ety sz [] (some 0)):=cT
      obtain⟨cur,m,g4,g5,g6,g7,g8,g9⟩:=g1.arr WN hρ
      rw[dN g4]at dV
      cases dV
      have R8:m=0:=by have:=(g8 0 rfl).1;omega
      have gZ:fA=0:=by
       have:fA*sz=0:=by rw[R8]at g6;omega
       rcases Nat.mul_eq_zero.1 this with e|e
       ·exact e
       ·omega
      subst gZ
      obtain⟨m1,m2⟩:=g1.kill WN
      rw[AO]at m1 m2
      exact⟨ρ',m1,g2.trans m2,.nsl _⟩
     ·rw[if_neg hy]at hs
      split at hs
      ·rename_i hb
       cases hs
       have hyp:¬ys.length=0:=fun e=>hy (by simpa using List.eq_nil_of_length_eq_zero e)
       have hyf:ys.isEmpty=false:=by simpa using hy
       have WN:(h.push (.arr ety sz [] (some 0))).get h.n=some (.arr ety sz [] (some 0)):=cT
       refine Ff _ _ h (c.next w3 ρ3 h) _ _ .ret ([x,bH,.sl (h.n+1) sz 0 ys.length,x,.bool ad2.isNone,.sl h.n sz 0 0,x,.sl (h.n+1) sz 0 ys.length]) ((h.push (.arr ety sz [] (some 0))).push (.arr ety sz ys none)) _ T.hD
        (by
         have PR:bF (h.push (.arr ety sz [] (some 0))) ety sz bytes (.sl h.n sz 0 0) ys=some (.sl (h.n+1) sz 0 ys.length,(h.push (.arr ety sz [] (some 0))).push (.arr ety sz ys none)):=by
          simp only[bF,hyf,Bool.false_eq_true,if_false,WN]
          rw[if_pos (by simpa using hb),if_neg (show ¬0+(0+ys.length)≤([]:List DV).length from fun cD=>hyp (by have:([]:List DV).length=0:=rfl;omega))]
          simp[Cj]
         simp[dB,eM,fU,bC,aC,Opd.eval,Dm.put,cW,nR,PR]) p1 hE3 fun a4 w4 F6=>?_
       have hst4':=F6.trans pR
       refine hend _ _ a4 w4 hst4' (.sl (h.n+1) sz 0 ys.length) rfl fun ρ' u g1 g2 g3=>?_
       exact⟨ρ',g1,g2,g3⟩
      ·cases hs
   ·cases hs
  ·cases hs
 ·unfold bW at hs
  split at hs
  ·split at hs
   ·split at hs
    ·cases hs;exact .push hl _
    ·split at hs
     ·cases hs;exact(dU.push hl _).trans (.push (Nat.le_succ_of_le hl) _)
     ·cases hs
   ·cases hs
  ·cases hs
end Go.Dm
/-
Part 33 of "Dm": what stands in the place of errors.As, at the two targets that occur: an error number, a fault.
-/
namespace Go.Dm
open Go.RowKit
def Oh:DV→Option DV
 | .ptr id sz idx off=>some (.ptr id sz idx (off+2))
 | .iptr l cs off=>some (.iptr l cs (off+2))
 | _=>none
def Fi(tE tF:TypeId)(h:aA):Nat→DV→Option (Option DV)
 | 0,_=>none
 | n+1,d=>match d with
  | .iface t x =>
   if t=tE then(match x with|.int .i64 k=>some (some (.int .i64 k))|_=>none)
   else if t=tF then
    match Oh x with
    | some y=>match iW h none y with
     | some .nili=>some none
     | some d'=>Fi tE tF h n d'
     | none=>none
    | none=>none
   else none
  | _=>none
def asHook(tE tF tPE tPF:TypeId):qJ:=fun h args =>
 match args with
 | [.nili,_]=>some (.bool false,h)
 | [.iface t x,.iface t' (.ptr id sz idx off)] =>
  if t'=tPE then
   match Fi tE tF h 50 (.iface t x)with
   | some (some k)=>match hU h 1 (.ptr id sz idx off) k with|some h'=>some (.bool true,h')|none=>none
   | some none=>if(hU h 1 (.ptr id sz idx off) (.int .i64 0)).isSome then some (.bool false,h)else none
   | none=>none
  else if t'=tPF then
   if t=tF then
    match Oh x with
    | some _=>match hU h 1 (.ptr id sz idx off) x with|some h'=>some (.bool true,h')|none=>none
    | none=>none
   else if t=tE then(match x with|.int .i64 _=>some (.bool false,h)|_=>none)
   else none
  else none
 | _=>none
inductive qF(tE tF:TypeId)(w:World):Value→Option Int→Nat→Prop
 | hit (n:Int):qF tE tF w (.iface tE (.int .i64 n)) (some n) 0
 | step (b o:Nat) (v:Value) (r:Option Int) (n:Nat):w.cell? ⟨b,o+2,none⟩=some v→qF tE tF w v r n→qF tE tF w (.iface tF (.pointer (some ⟨b,o,none⟩))) r (n+1)
 | stop (b o:Nat):w.cell? ⟨b,o+2,none⟩=some .nilIface→qF tE tF w (.iface tF (.pointer (some ⟨b,o,none⟩))) none 0
structure LG(P:Program)(f:Nat)(fn:Func)(tE tF tPE tPF:TypeId):Prop where
 hf:P.funcs[f]?=some fn
 hb:fn.body.isSome=true
 hn : (fn.name == "runtime.NumGoroutine") = false
 nil:∀(t:Value) (w:World),Calls P f #[.nilIface,t] w fun e w'=>e=.returned (.bool false)∧w'=w
 num:∀(v:Value) (r:Option Int) (n:Nat) (p:Addr) (old:Value) (w:World),Ky w→qF tE tF w v r n→w.cell? p=some old→w.frozen? p=false →
  Calls P f #[v,.iface tPE (.pointer (some p))] w fun e w'=>e=.returned (.bool r.isSome)∧∃ w1,(Below w.heap.size w w1∧(∀a,w1.frozen? a=w.frozen? a)∧w.drawn≤w1.drawn)∧w'=match r with|some n=>w1.setCell p (.int .i64 n)|none=>w1
 hit:∀(q p:Addr) (old:Value) (w:World),Ky w→w.cell? p=some old→w.frozen? p=false →
  Calls P f #[.iface tF (.pointer (some q)),.iface tPF (.pointer (some p))] w fun e w'=>e=.returned (.bool true)∧∃ w1,(Below w.heap.size w w1∧(∀a,w1.frozen? a=w.frozen? a)∧w.drawn≤w1.drawn)∧w'=w1.setCell p (.pointer (some q))
 miss:∀(n:Int) (p:Addr) (w:World),Ky w →
  Calls P f #[.iface tE (.int .i64 n),.iface tPF (.pointer (some p))] w fun e w'=>e=.returned (.bool false)∧Below w.heap.size w w'∧(∀a,w'.frozen? a=w.frozen? a)∧w.drawn≤w'.drawn
theorem Rel.laid{h:aA}{c:Ctx}(hR:Rel h c):Ky c.w:=fun b v hv=>⟨(hR.glob b v hv).1,(hR.glob b v hv).2.2⟩
theorem Rel.grow{h:aA}{c:Ctx}(hR:Rel h c){w1:World}(hb:Below c.w.heap.size c.w w1)(hf:∀a,a.block<c.w.heap.size→w1.frozen? a=c.w.frozen? a)(hd:c.w.drawn≤w1.drawn):Rel h (c.next w1 c.ρ h)∧bI c (c.next w1 c.ρ h):=by
 have hO:∀b,(iI h c.ρ b∨c.E b)↔c.O b:=fun b=>(hR.own b).symm
 have mB:∀b,b<c.w.heap.size→w1.heap[b]?=c.w.heap[b]?:=hb.block
 have pR:bI c (c.next w1 c.ρ h) :=
  ⟨fun _ _ hp=>hp,hb.size,fun b Ho _=>mB b Ho,fun b Ho=>.inl ((hO b).1 Ho),fun b e n hs=>by
   have:=Gg hs
   simp only[World.shape?,Ctx.next]at hs ⊢
   rw[mB b this];exact hs,fun _ hx=>hx,fun b Ho hE=>⟨hE,mB b Ho⟩,⟨hb.os,hb.output,hb.tape,hd,hb.size,hf⟩,rfl⟩
 exact⟨⟨hR.len,hR.lim,hR.dom,fun id o hg=>(hR.obj id o hg).mono pR (fun ha b x hr=>mB b (hR.block_lt hg ha hr)),hR.inj,fun _=>Iff.rfl,fun b Ho=>hR.notX b ((hO b).1 Ho),fun b Ho=>Nat.lt_of_lt_of_le (hR.old b Ho) hb.size,
  fun b Ho=>⟨Nat.lt_of_lt_of_le (hR.pend b Ho).1 hb.size,(hR.pend b Ho).2⟩,hR.glob.mono pR⟩,pR⟩
theorem zY{c:Ctx}{x y:DV}{v:Value}(hs:Oh x=some y)(hv:VR c x v):∃ b o,v=.pointer (some ⟨b,o,none⟩)∧VR c y (.pointer (some ⟨b,o+2,none⟩)):=by
 unfold Oh at hs
 split at hs
 ·cases hs
  obtain⟨b,base,rfl,hρ⟩:=hv.ptr_inv
  exact⟨b,_,rfl,.ptr hρ⟩
 ·cases hs
  obtain⟨b,o,vals,rfl,hb,hO,hX,hc,xB⟩:=hv.iptr_inv
  exact⟨b,_,rfl,.iptr vals hb hO hX hc xB⟩
 ·cases hs
theorem Mc{h:aA}{c:Ctx}(hR:Rel h c){y d:DV}{b o:Nat}(hy:VR c y (.pointer (some ⟨b,o,none⟩)))(hl:iW h none y=some d):∃ u,c.w.cell? ⟨b,o,none⟩=some u∧VR c d u:=by
 obtain⟨b',o',off,cs,e,hp,hc⟩:=yR hR hy hl
 cases e
 simp only[cO]at hp
 obtain⟨hj,rfl⟩:=List.getElem?_eq_some_iff.1 hp
 obtain⟨u,h1,_,h3⟩:=hc off hj
 exact⟨u,h1,h3⟩
theorem yB{tE tF:TypeId}{h:aA}{c:Ctx}(hR:Rel h c):∀(n:Nat) {d:DV} {v:Value} {r:Option DV},VR c d v→Fi tE tF h n d=some r →
  ∃ (q:Option Int) (k:Nat),qF tE tF c.w v q k∧r=q.map (.int .i64 ·):=by
 intro n
 induction n with
 | zero=>intro d v r _ hf;cases hf
 | succ n ih =>
  intro d v r hv hf
  simp only[Fi]at hf
  split at hf
  ·rename_i t x
   cases hv with
   | iface hv =>
    split at hf
    ·rename_i ht
     subst ht
     split at hf
     ·cases hf
      rw[hv.int_inv]
      exact⟨some _,0,.hit _,rfl⟩
     ·cases hf
    ·split at hf
     ·rename_i ht
      subst ht
      split at hf
      ·rename_i y hy
       obtain⟨b,o,rfl,DY⟩:=zY hy hv
       split at hf
       ·rename_i hl
        cases hf
        obtain⟨u,h1,h2⟩:=Mc hR DY hl
        cases h2
        exact⟨none,0,.stop b o h1,rfl⟩
       ·rename_i d' hl
        obtain⟨u,h1,h2⟩:=Mc hR DY hl
        obtain⟨q,k,k1,k2⟩:=ih h2 hf
        exact⟨q,k+1,.step b o u q k h1 k1,k2⟩
       ·cases hf
      ·cases hf
     ·cases hf
  ·cases hf
theorem Y2{h h':aA}{id sz idx off n:Nat}{x:DV}(hs:hU h n (.ptr id sz idx off) x=some h'):∃ ety xs cap e,h.get id=some (.arr ety sz xs cap)∧h.lim≤id∧aQ n x=true∧off+n≤sz∧xs[idx]?=some e∧(aF sz e).length=sz∧h'=h.set id (.arr ety sz (xs.set idx (turn sz off n e x)) cap):=by
 unfold hU at hs
 simp only at hs
 split at hs
 ·rename_i ety dK xs cap hg
  split at hs
  ·rename_i hc
   obtain⟨h1,h2,h3,h4⟩:=hc
   subst h1
   split at hs
   ·rename_i e he
    split at hs
    ·rename_i hl
     cases hs
     exact⟨ety,xs,cap,e,hg,h2,h3,h4,he,hl,rfl⟩
    ·cases hs
   ·cases hs
  ·cases hs
 ·cases hs
theorem MZ{cur:Array Value}{p:Nat}{u:Value}(hp:p<cur.size):spl cur p [u]=cur.setIfInBounds p u:=by
 have cD:p+[u].length≤cur.size:=by simp only[List.length_singleton];omega
 apply Array.ext_getElem?
 intro q
 rw[oU cD,Array.getElem?_setIfInBounds]
 by_cases hq:q<p
 ·rw[if_pos hq,if_neg (by omega)]
 ·rw[if_neg hq]
  by_cases he:q=p
  ·subst he
   rw[if_pos (by simp),if_pos rfl,if_pos hp]
   simp
  ·rw[if_neg (by simp;omega),if_neg (by omega)]
theorem nB{h h':aA}{c:Ctx}(hR:Rel h c){id sz idx off:Nat}{x:DV}{p:Addr}{u:Value}(vx:VR c (.ptr id sz idx off) (.pointer (some p)))(hs:hU h 1 (.ptr id sz idx off) x=some h')
  (vy:VR c x u) (yT:u.cells=#[u]):(∃ old,c.w.cell? p=some old)∧c.w.frozen? p=false∧∃ ρ',Rel h' (c.next (c.w.setCell p u) ρ' h')∧bI c (c.next (c.w.setCell p u) ρ' h'):=by
 obtain⟨ety,xs,cap,e,hg,bJ,hstor,hoff,he,nR,rfl⟩:=Y2 hs
 obtain⟨b,base,dD,hρ⟩:=vx.ptr_inv
 cases dD
 obtain⟨cur,m,g1,g2,g3,g4,g5,g6⟩:=hR.arr hg hρ
 obtain⟨s1,s2,s4,s3⟩:=jT hstor vy
 obtain⟨hidx,Rk⟩:=List.getElem?_eq_some_iff.1 he
 have Cr:idx*sz+sz≤m*sz:=by
  have:(idx+1)*sz≤m*sz:=Nat.mul_le_mul_right _ (by omega)
  rw[Nat.add_mul]at this;omega
 have hu:u.cells.toList=[u]:=by rw[yT]
 rw[hu]at s2 s4 s3
 have hp:base+idx*sz+off+[u].length≤cur.size:=by rw[s2];omega
 have LL:base+idx*sz+off<cur.size:=by simp at hp;omega
 have hturn:aF sz (turn sz off 1 e x)=(aF sz e).take off++aF 1 x++(aF sz e).drop (off+1):=by
  unfold turn
  split
  ·rename_i hc
   obtain⟨e1,e2⟩:=hc
   subst e1
   rw[e2]
   simp[nR]
  ·rfl
 obtain⟨k1,k2⟩:=hR.write hg hρ g1 g2 g3 (xs.set idx (turn sz off 1 e x)) (by simp) g4 g5 (base+idx*sz+off) [u] hp s4 (jB.2 fun k d hk=>by
  rw[List.getElem?_set]at hk
  have g6':=jB.1 g6
  by_cases PH:idx=k
  ·subst PH
   rw[if_pos rfl,if_pos hidx]at hk
   cases hk
   obtain⟨w1,w2⟩:=g6' idx e he
   rw[hturn]
   refine⟨by simp only[List.length_append,List.length_take,List.length_drop,nR,s1];omega,?_⟩
   have l1:((aF sz e).take off).length=off:=by rw[List.length_take,nR];omega
   refine dG.append (dG.append ?_ ?_) ?_
   ·exact(w2.take off).other hp (.inl (by rw[l1];exact Nat.le_refl _))
   ·rw[l1]
    exact dG.same hp (by rw[s1,s2];exact Nat.le_refl _) s3
   ·rw[List.length_append,l1,s1]
    have:=(w2.drop (off+1)).other hp (.inr (by rw[s2];omega))
    simpa[Nat.add_assoc]using this
  ·rw[if_neg PH]at hk
   obtain⟨w1,w2⟩:=g6' k d hk
   refine⟨w1,w2.other hp ?_⟩
   rw[w1,s2]
   rcases Nat.lt_or_gt_of_ne PH with aY|hgt
   ·have:idx*sz+(sz-1)<k*sz:=kM aY (by omega)
    right;omega
   ·have:k*sz+(sz-1)<idx*sz:=kM hgt (by omega)
    left;omega)
 refine⟨⟨cur[base+idx*sz+off],?_⟩,nU (ob:=.cells cur ety (0,0)) (by exact g1) rfl,c.ρ,?_⟩
 ·simp[World.cell?,g1,LL]
 ·rw[setCell_eq_setRow c.w b _ cur ety (0,0) u g1,←MZ LL]
  exact⟨k1,k2⟩
theorem Sr{h h':aA}{c:Ctx}(hR:Rel h c){w1:World}(hb:Below c.w.heap.size c.w w1)(hf:(∀a,w1.frozen? a=c.w.frozen? a)∧c.w.drawn≤w1.drawn){id sz idx off:Nat}{x:DV}{p:Addr}{u:Value}(hp:VR c (.ptr id sz idx off) (.pointer (some p)))
  (hs:hU h 1 (.ptr id sz idx off) x=some h') (hx:VR c x u) (yT:u.cells=#[u]) {d:DV} {v:Value} (hv:VR c d v):jS h c h' (w1.setCell p u) d v:=by
 obtain⟨k1,k2⟩:=hR.grow hb (fun a _=>hf.1 a) hf.2
 obtain⟨_,_,ρ',m1,m2⟩:=nB k1 (hp.mono k2) hs (hx.mono k2) yT
 exact⟨ρ',m1,k2.trans m2,(hv.mono k2).mono m2⟩
theorem Rp{c:Ctx}{d1 d2:DV}{vals:List Value}(hv:VRs c [d1,d2] vals):∃ v1 v2,vals=[v1,v2]∧VR c d1 v1∧VR c d2 v2:=by
 have hl:=hv.1
 cases vals with
 | nil=>simp at hl
 | cons a r=>cases r with
  | nil=>simp at hl
  | cons b r=>cases r with
   | nil=>exact⟨a,b,rfl,hv.2 0 (by simp) (by simp),hv.2 1 (by simp) (by simp)⟩
   | cons c r=>simp at hl
theorem AbA{P:Program}{f:Nat}{fn:Func}{tE tF tPE tPF:TypeId}(T:LG P f fn tE tF tPE tPF):mY P f (asHook tE tF tPE tPF):=by
 have Au : fn.name ≠ "runtime.NumGoroutine" := by simpa using T.hn
 obtain⟨body,hbody⟩:=Option.isSome_iff_exists.1 T.hb
 refine⟨fun args h d h' c vals hs hR hv=>?_,fun h args v h' hl hs=>?_⟩
 ·have jJ:=fun a=>jD T.hf hbody Au (w:=c.w) a
  refine .inr ⟨f,vals.toArray,jJ _,?_⟩
  unfold asHook at hs
  split at hs
  ·-- nil
   cases hs
   obtain⟨v1,v2,rfl,h1,h2⟩:=Rp hv
   cases h1
   refine(T.nil v2 c.w).mono fun e w' hp=>?_
   obtain⟨rfl,rfl⟩:=hp
   exact⟨_,rfl,jS.pure hR (.bool false)⟩
  ·rename_i t x t' id sz idx off
   obtain⟨v1,v2,rfl,h1,h2⟩:=Rp hv
   cases h1 with
   | iface h1 =>
   rename_i v1
   cases h2 with
   | iface h2 =>
   obtain⟨b,base,rfl,hρ⟩:=h2.ptr_inv
   split at hs
   ·rename_i ht
    subst ht
    split at hs
    ·rename_i k hk
     split at hs
     ·rename_i Ki cS
      cases hs
      obtain⟨q,n,LW,hq⟩:=yB hR 50 (.iface h1) hk
      cases q with
      | none=>cases hq
      | some q =>
       cases hq
       obtain⟨⟨old,ho⟩,yV,_⟩:=nB hR h2 cS (VR.int .i64 q) rfl
       refine(T.num _ _ n _ old c.w hR.laid LW ho yV).mono fun e w' hp=>?_
       obtain⟨rfl,w1,⟨hb,hf⟩,rfl⟩:=hp
       exact⟨_,rfl,Sr hR hb hf h2 cS (.int .i64 q) rfl (.bool true)⟩
     ·cases hs
    ·rename_i hk
     split at hs
     ·rename_i Hi
      cases hs
      obtain⟨Ki,cS⟩:=Option.isSome_iff_exists.1 Hi
      obtain⟨q,n,LW,hq⟩:=yB hR 50 (.iface h1) hk
      cases q with
      | some q=>cases hq
      | none =>
       obtain⟨⟨old,ho⟩,yV,_⟩:=nB hR h2 cS (VR.int .i64 0) rfl
       refine(T.num _ _ n _ old c.w hR.laid LW ho yV).mono fun e w' hp=>?_
       obtain⟨rfl,w1,⟨hb,hf⟩,rfl⟩:=hp
       obtain⟨k1,k2⟩:=hR.grow hb (fun a _=>hf.1 a) hf.2
       exact⟨_,rfl,_,k1,k2,.bool false⟩
     ·cases hs
    ·cases hs
   ·split at hs
    ·rename_i ht
     subst ht
     split at hs
     ·rename_i htF
      subst htF
      split at hs
      ·rename_i y hy
       split at hs
       ·rename_i Ki cS
        cases hs
        obtain⟨bq,oq,rfl,_⟩:=zY hy h1
        obtain⟨⟨old,ho⟩,yV,_⟩:=nB hR h2 cS h1 rfl
        refine(T.hit _ _ old c.w hR.laid ho yV).mono fun e w' hp=>?_
        obtain⟨rfl,w1,⟨hb,hf⟩,rfl⟩:=hp
        exact⟨_,rfl,Sr hR hb hf h2 cS h1 rfl (.bool true)⟩
       ·cases hs
      ·cases hs
     ·split at hs
      ·rename_i htE
       subst htE
       split at hs
       ·cases hs
        rw[h1.int_inv]
        refine(T.miss _ _ c.w hR.laid).mono fun e w' hp=>?_
        obtain⟨rfl,hb,hf⟩:=hp
        obtain⟨k1,k2⟩:=hR.grow hb (fun a _=>hf.1 a) hf.2
        exact⟨_,rfl,_,k1,k2,.bool false⟩
       ·cases hs
      ·cases hs
    ·cases hs
  ·cases hs
 ·unfold asHook at hs
  split at hs
  ·cases hs;exact .refl _
  ·split at hs
   ·split at hs
    ·split at hs
     ·rename_i cS
      cases hs;exact sY cS
     ·cases hs
    ·split at hs
     ·cases hs;exact .refl _
     ·cases hs
    ·cases hs
   ·split at hs
    ·split at hs
     ·split at hs
      ·split at hs
       ·rename_i cS
        cases hs;exact sY cS
       ·cases hs
      ·cases hs
     ·split at hs
      ·split at hs
       ·cases hs;exact .refl _
       ·cases hs
      ·cases hs
    ·cases hs
  ·cases hs
end Go.Dm
/-
Part 41 of "Dm": slices.Clone whose row is written no more.
-/
namespace Go.Dm
def oY(ety sz bytes:Nat):qJ:=fun h args =>
 match bW ety sz bytes h args with
 | some (v,h1)=>gS h1 v
 | none=>none
theorem jS.frozen{h h1 h2:aA}{c:Ctx}{w:World}{d d':DV}{v:Value}(hp:jS h c h1 w d v)(hf:gS h1 d=some (d',h2)):jS h c h2 w d' v:=by
 obtain⟨ρ,k1,k2,k3⟩:=hp
 obtain⟨⟨q1,q2⟩,q3⟩:=tP k1 k3 hf
 exact⟨ρ,q1,k2.trans q2,q3⟩
theorem VX{P:Program}{f:Nat}{ety sz bytes:Nat}(hk:mY P f (bW ety sz bytes)):mY P f (oY ety sz bytes):=by
 refine⟨fun args h d h' c vals hs hR hv=>?_,fun h args v h' hl hs=>?_⟩
 ·unfold oY at hs
  split at hs
  ·rename_i v h1 hc
   rcases hk.1 args h v h1 c vals hc hR hv with⟨u,w',k1,k2⟩|⟨f',vals',k1,k2⟩
   ·exact .inl ⟨u,w',k1,k2.frozen hs⟩
   ·exact .inr ⟨f',vals',k1,k2.mono fun e w hp=>by
     obtain⟨u,rfl,hp⟩:=hp
     exact⟨u,rfl,hp.frozen hs⟩⟩
  ·cases hs
 ·unfold oY at hs
  split at hs
  ·rename_i u h1 hc
   exact(hk.2 h args u h1 hl hc).trans (tQ hs)
  ·cases hs
end Go.Dm
/-
Part 42 of "Dm": what stands in the place of slices.Sort of ints and of slices.SortFunc of pairs of ints: the row sorted.
-/
namespace Go.Dm
def Em{α:Type}(lt:α→α→Bool)(x:α):List α→List α
 | []=>[x]
 | y::r=>if lt y x=true then y::Em lt x r else x::y::r
def fZ{α:Type}(lt:α→α→Bool)(l:List α):List α:=l.foldr (Em lt) []
def ltZ(a b:Int):Bool:=decide (a<b)
def ltP(a b:Int×Int):Bool:=decide (a.1<b.1∨(a.1=b.1∧a.2<b.2))
def unI:DV→Option Int
 | .int .i64 n=>some n
 | _=>none
def unP:DV→Option (Int×Int)
 | .agg [.int .i64 a,.int .i64 b]=>some (a,b)
 | _=>none
def mkI(n:Int):DV:=.int .i64 n
def mkP(p:Int×Int):DV:=.agg [.int .i64 p.1,.int .i64 p.2]
def qL{α:Type}(sz:Nat)(un:DV→Option α)(mk:α→DV)(lt:α→α→Bool)(h:aA):DV→Option (DV×aA)
 | .nsl=>some (.tup [],h)
 | .sl id dK off len=>match h.get id with
  | some (.arr ety jQ xs cap) =>
   if sz=dK∧sz=jQ∧h.lim≤id∧off+len≤xs.length∧len<4611686018427387904 then
    match((xs.drop off).take len).mapM un with
    | some zs=>some (.tup [],h.set id (.arr ety sz (cB xs ((fZ lt zs).map mk) off) cap))
    | none=>none
   else none
  | _=>none
 | _=>none
def rX:qJ:=fun h args=>match args with
 | [v]=>qL 1 unI mkI ltZ h v
 | _=>none
def pD(g:Nat):qJ:=fun h args=>match args with
 | [v,.func g' []]=>if Nat.beq g' g=true then qL 2 unP mkP ltP h v else none
 | _=>none
end Go.Dm
/-
Part 43 of "Dm": a row sorted is what the library's sorting leaves.
-/
namespace Go.Dm
structure Ja(P:Program)(f:FuncId)(k:Nat)(extra:List Value){α:Type}(enc:α→List Value)(lt:α→α→Bool):Prop where
 enter:∀args w,(callFunc f args).run P w=.ok (.enter f args) w
 none:∀(a:Option Addr) (cap:Nat) (w:World),Calls P f (.slice a 0 cap::extra).toArray w fun e w'=>e=.returned (.tuple #[])∧w'=w
 row:∀(b co cap:Nat) (zs:List α) (w:World),zs.length<4611686018427387904→b<w.heap.size→(∀b' v,Qk=some (b',v)→b'≠b∧b'<w.heap.size∧w.cell? ⟨b',0,Option.none⟩=some v) →
  (∀i (hi:i<zs.length) j,j<k→w.cell? ⟨b,co+i*k+j,Option.none⟩=(enc zs[i])[j]?∧w.frozen? ⟨b,co+i*k+j,Option.none⟩=false) →
  Calls P f (.slice (some ⟨b,co,Option.none⟩) zs.length cap::extra).toArray w fun e w'=>e=.returned (.tuple #[])∧∃ n os,w'=Sort.grow (Sort.putRow id (Sort.ahead w n) b co ((fZ lt zs).flatMap enc).toArray) os
theorem Kf{h:aA}{id:Nat}{o:DO}(hg:h.get id=some o):h.set id o=h:=by
 have aY:=cY hg
 unfold aA.get at hg
 rw[if_pos aY]at hg
 unfold aA.set
 have:h.objs.set (h.n-1-id) o=h.objs:=by
  apply List.ext_getElem?
  intro j
  rw[List.getElem?_set]
  by_cases e:h.n-1-id=j
  ·subst e
   rw[if_pos rfl]
   split
   ·exact hg.symm
   ·rename_i hh;rw[List.getElem?_eq_none (by omega)]
  ·rw[if_neg e]
 rw[this]
theorem Dv{α:Type}{un:DV→Option α}:∀{l:List DV} {zs:List α},l.mapM un=some zs→zs.length=l.length∧∀i (h1:i<l.length) (h2:i<zs.length),un l[i]=some zs[i]
 | [],zs,h=>by
  simp at h
  subst h
  exact⟨rfl,fun i h1=>absurd h1 (Nat.not_lt_zero _)⟩
 | d::l,zs,h=>by
  rw[List.mapM_cons]at h
  cases h1:un d with
  | none=>simp[h1]at h
  | some z =>
   cases h2:l.mapM un with
   | none=>simp[h1,h2]at h
   | some r =>
    simp[h1,h2]at h
    subst h
    obtain⟨e1,e2⟩:=Dv h2
    refine⟨by simp[e1],fun i a1 a2=>?_⟩
    cases i with
    | zero=>exact h1
    | succ i=>exact e2 i (by simpa using a1) (by simpa using a2)
theorem AL{w:World}{b p:Nat}{cur:Array Value}{ety:TypeId}(g1:w.heap[b]?=some (.cells cur ety (0,0)))(vs:List Value)(hp:p+vs.length≤cur.size) :
  (Sort.putRow id w b p vs.toArray).heap=(w.setRow b (spl cur p vs)).heap:=by
 apply Array.ext_getElem?
 intro q
 by_cases hq:q=b
 ·subst hq
  rw[setRow_heap w q cur _ ety (0,0) g1]
  simp only[Sort.putRow,Sort.mapBlock,Array.getElem?_modify,if_true,g1,Option.map_some,Sort.onCells]
  congr 2
  apply Array.ext_getElem?
  intro j
  rw[oU hp]
  simp only[Sort.putCells,Array.getElem?_mapIdx,List.size_toArray]
  by_cases h1:j<p
  ·rw[if_pos h1]
   have:¬(p≤j∧j<p+vs.length):=by omega
   simp[this]
  ·rw[if_neg h1]
   by_cases h2:j<p+vs.length
   ·rw[if_pos h2]
    have h3:p≤j∧j<p+vs.length:=by omega
    have h4:j<cur.size:=by omega
    have h5:j-p<vs.length:=by omega
    simp[h3,h4,h5]
   ·rw[if_neg h2]
    have:¬(p≤j∧j<p+vs.length):=by omega
    simp[this]
 ·rw[setRow_other _ _ _ _ hq]
  simp only[Sort.putRow,Sort.mapBlock,Array.getElem?_modify]
  rw[if_neg (fun e=>hq e.symm)]
theorem qV{α:Type}{enc:α→List Value}{k:Nat}(hk:∀z,(enc z).length=k):∀(zs:List α) (i:Nat) (hi:i<zs.length) (j:Nat),j<k→(zs.flatMap enc)[i*k+j]?=(enc zs[i])[j]?
 | [],i,hi,_,_=>absurd hi (Nat.not_lt_zero _)
 | z::zs,0,_,j,hj=>by
  simp only[List.flatMap_cons,Nat.zero_mul,Nat.zero_add,List.getElem_cons_zero]
  rw[List.getElem?_append_left (by rw[hk];exact hj)]
 | z::zs,i+1,hi,j,hj=>by
  simp only[List.flatMap_cons,List.getElem_cons_succ]
  rw[List.getElem?_append_right (by rw[hk,Nat.add_mul];omega),hk,←qV hk zs i (by simpa using hi) j hj]
  congr 1
  rw[Nat.add_mul];omega
theorem vR{α:Type}{enc:α→List Value}{k:Nat}(hk:∀z,(enc z).length=k)(zs:List α):(zs.flatMap enc).length=zs.length*k:=by
 induction zs with
 | nil=>simp
 | cons z zs ih=>simp only[List.flatMap_cons,List.length_append,hk,ih,List.length_cons,Nat.add_mul];omega
theorem JC{α:Type}(lt:α→α→Bool)(x:α)(l:List α):(Em lt x l).length=l.length+1:=by
 induction l with
 | nil=>rfl
 | cons y r ih =>
  simp only[Em]
  split
  ·simp[ih]
  ·rfl
theorem E8{α:Type}(lt:α→α→Bool)(l:List α):(fZ lt l).length=l.length:=by
 unfold fZ
 induction l with
 | nil=>rfl
 | cons x r ih=>rw[List.foldr_cons,JC,ih];rfl
theorem xW{P:Program}{f:FuncId}{k:Nat}{extra:List Value}{α:Type}{enc:α→List Value}{lt:α→α→Bool}{un:DV→Option α}{mk:α→DV}(C:Ja P f k extra enc lt)(hk:∀z,(enc z).length=k)(h1:∀z,∀v∈enc z,v.oneCell'=true)
  (LK:∀d z,un d=some z→∀(c:Ctx) (j:Nat) (e:DV) (v:Value),(aF k d)[j]?=some e→VR c e v→(enc z)[j]?=some v) (RM:∀z,(aF k (mk z)).length=k∧∀(c:Ctx) (j:Nat) (e:DV),(aF k (mk z))[j]?=some e→∃ u,(enc z)[j]?=some u∧VR c e u)
  {h h':aA} {c:Ctx} {d r:DV} {v:Value} (hR:Rel h c) (hv:VR c d v) (hs:qL k un mk lt h d=some (r,h')):Calls P f (v::extra).toArray c.w (sT h c h' r):=by
 have unit:∀c:Ctx,VR c (.tup []) (.tuple #[]):=fun c=>VR.tup (c:=c) (ds:=[]) (vs:=[]) rfl (fun i h1=>absurd h1 (Nat.not_lt_zero _))
 unfold qL at hs
 split at hs
 ·cases hs
  obtain⟨a,rfl⟩:=hv.nsl_inv
  refine(C.none a 0 c.w).mono fun e w' ⟨he,hw⟩=>⟨_,he,?_⟩
  rw[hw]
  exact jS.pure hR (unit c)
 ·rename_i id dK off len
  split at hs
  ·rename_i ety jQ xs cap hg
   split at hs
   ·rename_i bS
    obtain⟨e1,e2,bJ,cD,hbig⟩:=bS
    subst e1;subst e2
    split at hs
    ·rename_i zs hz
     cases hs
     obtain⟨z1,z2⟩:=Dv hz
     have hdl:((xs.drop off).take len).length=len:=by rw[List.length_take,List.length_drop];omega
     rw[hdl]at z1
     obtain⟨b,base,fA,gK,nn,lP,rfl,hρ,dV,yU,Ay,Eo⟩:=hv.sl_inv
     obtain⟨cur,mm,g1,g2,g3,g4,g5,g6⟩:=hR.arr hg hρ
     by_cases RP:len=0
     ·subst RP
      have hz0:zs=[]:=List.length_eq_zero_iff.1 z1
      subst hz0
      have hsp:cB xs ((fZ lt ([]:List α)).map mk) off=xs:=by
       apply List.ext_getElem?
       intro q
       rw[Gd (by simp[fZ];omega)]
       split
       ·rfl
       ·rw[if_neg (by simp[fZ];omega)]
      rw[hsp,Kf hg]
      refine(C.none _ fA c.w).mono fun e w' ⟨he,hw⟩=>⟨_,he,?_⟩
      rw[hw]
      exact jS.pure hR (unit c)
     ·have nS:gK=base+off*k:=Eo.elim (fun e=>e) (fun e=>by omega)
      subst nS
      have Ho:b<c.w.heap.size:=(Array.getElem?_eq_some_iff.1 g1).1
      have hcells:∀i (hi:i<zs.length) j,j<k→c.w.cell? ⟨b,base+off*k+i*k+j,none⟩=(enc zs[i])[j]?∧c.w.frozen? ⟨b,base+off*k+i*k+j,none⟩=false:=fun i hi j hj=>by
       refine⟨?_,nU (ob:=.cells cur ety (0,0)) g1 rfl⟩
       have hxi:off+i<xs.length:=by omega
       have hu:=z2 i (by rw[hdl];omega) hi
       rw[List.getElem_take,List.getElem_drop]at hu
       obtain⟨p1,p2⟩:=g6 (off+i) hxi
       obtain⟨u,q1,q2,q3⟩:=p2 j (by rw[p1];exact hj)
       have q4:=LK _ _ hu c j _ u (List.getElem?_eq_getElem (by rw[p1];exact hj)) q3
       rw[q4]
       have xO:base+off*k+i*k+j=base+(off+i)*k+j:=by rw[Nat.add_mul];omega
       rw[xO,←q1]
       simp[World.cell?,g1]
      have F7:=E8 lt zs
      have eW:iQ c k ((fZ lt zs).map mk) ((fZ lt zs).flatMap enc):=by
       refine⟨by rw[vR hk,List.length_map],fun u hu=>?_,fun i d hd=>?_⟩
       ·obtain⟨z,_,hz⟩:=List.mem_flatMap.1 hu
        exact h1 z u hz
       ·rw[List.getElem?_map]at hd
        obtain⟨z,hz,rfl⟩:=Option.map_eq_some_iff.1 hd
        obtain⟨hi,rfl⟩:=List.getElem?_eq_some_iff.1 hz
        obtain⟨m1,m2⟩:=RM (fZ lt zs)[i]
        refine⟨m1,fun j e he=>?_⟩
        obtain⟨u,n1,n2⟩:=m2 c j e he
        have hj:=(List.getElem?_eq_some_iff.1 he).1
        exact⟨u,by rw[qV hk _ i hi j (by omega)];exact n1,n2⟩
      obtain⟨lK,nR⟩:=nD g6 g3 g4 eW (k:=off) (by rw[List.length_map];omega)
      obtain⟨k1,k2⟩:=hR.write hg hρ g1 g2 g3 (cB xs ((fZ lt zs).map mk) off) (rG (by rw[List.length_map];omega)) g4 g5 (base+off*k) _ lK eW.2.1 nR
      have iX:c.O b:=(hR.own b).2 (.inl ⟨id,_,base,hg,rfl,hρ⟩)
      have hc:=C.row b (base+off*k) fA zs c.w (by omega) Ho (fun b' v hgv=>⟨fun e=>(hR.glob b' v hgv).2.1 (e ▸ iX),(hR.glob b' v hgv).1,(hR.glob b' v hgv).2.2⟩) hcells
      rw[z1]at hc
      refine hc.mono fun e w' ⟨he,n,os,hw⟩=>⟨_,he,?_⟩
      have hheap:=AL g1 ((fZ lt zs).flatMap enc) lK
      generalize hW1:c.w.setRow b (spl cur (base+off*k) ((fZ lt zs).flatMap enc))=W1 at *
      have dX:W1.heap.size=c.w.heap.size:=by rw[←hW1];simp[World.setRow]
      have Xh:w'.heap=W1.heap++os:=by
       rw[hw]
       rw[←hheap]
       simp only[Sort.grow,Sort.putRow,Sort.mapBlock,Sort.ahead]
      have hold:∀q,q<W1.heap.size→w'.heap[q]?=W1.heap[q]?:=fun q hq=>by rw[Xh,Array.getElem?_append_left hq]
      have hos:w'.os=W1.os∧w'.tape=W1.tape∧w'.output=W1.output:=by rw[hw,←hW1];exact⟨rfl,rfl,rfl⟩
      obtain⟨q1,q2⟩:=k1.grow (w1:=w') ⟨hos.1,hos.2.1,hos.2.2,by rw[Xh];simp[Ctx.next],hold⟩ (fun a ha=>by
       simp only[World.frozen?,Ctx.next]at ha ⊢
       rw[hold _ ha]) (by rw[hw,←hW1];exact Nat.le_add_right _ _)
      rw[Ci]at q1 q2
      exact⟨c.ρ,q1,k2.trans q2,unit _⟩
    ·cases hs
   ·cases hs
  ·cases hs
 ·cases hs
theorem xX{k:Nat}{α:Type}{lt:α→α→Bool}{un:DV→Option α}{mk:α→DV}{h h':aA}{d r:DV}(hs:qL k un mk lt h d=some (r,h')):dU h h':=by
 unfold qL at hs
 split at hs
 ·cases hs;exact .refl _
 ·split at hs
  ·split at hs
   ·rename_i ety sz2 xs cap hg bS
    split at hs
    ·cases hs
     exact dU.set hg bS.2.2.1 _
    ·cases hs
   ·cases hs
  ·cases hs
 ·cases hs
def CO(n:Int):List Value:=[.int .i64 n]
def jK(p:Int×Int):List Value:=[.int .i64 p.1,.int .i64 p.2]
theorem So{P:Program}{f:FuncId}(C:Ja P f 1 [] CO ltZ):mY P f rX:=by
 refine⟨fun args h d h' c vals hs hR hv=>?_,fun h args v h' _ hs=>?_⟩
 ·unfold rX at hs
  split at hs
  ·rename_i x
   obtain⟨v,rfl⟩:∃ v,vals=[v]:=by
    have:=hv.1
    match vals with
    | [v]=>exact⟨v,rfl⟩
    | []=>simp at this
    | _::_::_=>simp at this
   have hx:VR c x v:=hv.2 0 (by simp) (by simp)
   refine .inr ⟨f,_,C.enter _ _,xW C (fun _=>rfl) (fun z u hu=>by simp[CO]at hu;subst hu;rfl) (fun d z hd c j e v he hv=>?_) (fun z=>⟨rfl,fun c j e he=>?_⟩) hR hx hs⟩
   ·unfold unI at hd
    split at hd
    ·cases hd
     rcases j with _|j
     ·simp[aF]at he;subst he
      rw[hv.int_inv];rfl
     ·simp[aF]at he
    ·cases hd
   ·rcases j with _|j
    ·simp[aF,mkI]at he;subst he
     exact⟨_,rfl,.int _ _⟩
    ·simp[aF,mkI]at he
  ·cases hs
 ·unfold rX at hs
  split at hs
  ·exact xX hs
  ·cases hs
theorem Oe{P:Program}{f:FuncId}{g:Nat}(C:Ja P f 2 [.func (.func g) #[] #[]] jK ltP):mY P f (pD g):=by
 refine⟨fun args h d h' c vals hs hR hv=>?_,fun h args v h' _ hs=>?_⟩
 ·unfold pD at hs
  split at hs
  ·rename_i x g'
   split at hs
   ·rename_i hgg
    have hgg:=Nat.eq_of_beq_eq_true hgg
    subst hgg
    obtain⟨v,u,rfl⟩:∃ v u,vals=[v,u]:=by
     have:=hv.1
     match vals with
     | [v,u]=>exact⟨v,u,rfl⟩
     | []=>simp at this
     | [_]=>simp at this
     | _::_::_::_=>simp at this
    have hx:VR c x v:=hv.2 0 (by simp) (by simp)
    have hf:VR c (.func g' []) u:=hv.2 1 (by simp) (by simp)
    obtain⟨vs,rfl,hl,_⟩:=hf.func_inv
    have:vs=[]:=List.length_eq_zero_iff.1 hl.symm
    subst this
    refine .inr ⟨f,_,C.enter _ _,xW C (fun _=>rfl) (fun z u hu=>by simp[jK]at hu;rcases hu with rfl|rfl<;>rfl) (fun d z hd c j e v he hv=>?_) (fun z=>⟨rfl,fun c j e he=>?_⟩) hR hx hs⟩
    ·unfold unP at hd
     split at hd
     ·cases hd
      rcases j with _|_|j
      ·simp[aF]at he;subst he
       rw[hv.int_inv];rfl
      ·simp[aF]at he;subst he
       rw[hv.int_inv];rfl
      ·simp[aF]at he
     ·cases hd
    ·rcases j with _|_|j
     ·simp[aF,mkP]at he;subst he
      exact⟨_,rfl,.int _ _⟩
     ·simp[aF,mkP]at he;subst he
      exact⟨_,rfl,.int _ _⟩
     ·simp[aF,mkP]at he
   ·cases hs
  ·cases hs
 ·unfold pD at hs
  split at hs
  ·split at hs
   ·exact xX hs
   ·cases hs
  ·cases hs
end Go.Dm
/-
Part 1 of "Dw", the machine's runs wO a bound: what a code does if it is given steps enough; the equations of that.
-/
namespace Go.Dm
abbrev wK:=aI→Env→aA→Res
abbrev fF:=Nat→List DV→aA→Option (DV×aA)
def nW(r1 r2:wK):Prop:=∀c env h e aU h',r1 c env h=.ok e aU h'→r2 c env h=.ok e aU h'
def qG(c1 c2:fF):Prop:=∀f args h r,c1 f args h=some r→c2 f args h=some r
theorem nW.refl(r:wK):nW r r:=fun _ _ _ _ _ _ h=>h
theorem nW.trans{a b c:wK}(h:nW a b)(g:nW b c):nW a c:=fun x y z e u v k=>g _ _ _ _ _ _ (h x y z e u v k)
theorem sD{c1 c2:fF}(hc:qG c1 c2){o:DOp}{env:Env}{h:aA}{r:DV×aA}(hs:bC c1 o env h=some r):bC c2 o env h=some r:=by
 cases o
 case call f args =>
  simp only[bC]at hs ⊢
  split at hs
  ·exact hc _ _ _ _ hs
  ·cases hs
 all_goals exact hs
theorem BX{c1 c2:fF}(hc:qG c1 c2){l:Nat}{o:DOp}{env:Env}{h:aA}{r:DV×aA}(hs:lL c1 l o env h=some r):lL c2 l o env h=some r:=by
 unfold lL at hs ⊢
 split at hs
 ·rename_i v h' h1
  rw[sD hc h1];exact hs
 ·cases hs
theorem Tv{c1 c2:fF}(hc:qG c1 c2){q:Nat}{L:cA}{o:DOp}{env:Env}{h:aA}{r:DV×aA×cA}(hs:lF c1 q L o env h=some r):lF c2 q L o env h=some r:=by
 unfold lF at hs ⊢
 split at hs
 ·split at hs
  ·rename_i h1
   rw[sD hc h1];exact hs
  ·cases hs
 ·cases hs
theorem Eb{c1 c2:fF}(hc:qG c1 c2){l q:Nat}{L:cA}{o:DOp}{env:Env}{h:aA}{r:DV×aA×cA}(hs:cI c1 l q L o env h=some r):cI c2 l q L o env h=some r:=by
 unfold cI at hs ⊢
 split at hs
 ·exact hs
 ·split at hs
  ·exact Tv hc hs
  ·split at hs
   ·rename_i v h' h1
    rw[BX hc h1];exact hs
   ·cases hs
theorem wQ{c1 c2:fF}(hc:qG c1 c2):∀(ops:List aH) {env:Env} {h:aA} {r:Env×aA},eM c1 ops env h=some r→eM c2 ops env h=some r:=by
 intro ops
 induction ops with
 | nil=>intro env h r hs;exact hs
 | cons o ops ih =>
  intro env h r hs
  simp only[eM]at hs ⊢
  split at hs
  ·split at hs
   ·rename_i v h' h1
    rw[sD hc h1];exact ih hs
   ·cases hs
  ·exact ih hs
  ·cases hs
theorem tA{c1 c2:fF}(hc:qG c1 c2):∀(ops:List aH) {env:Env} {hs:List aA} {L:cA} {r:Env×aA},dL c1 ops env hs L=some r→dL c2 ops env hs L=some r:=by
 intro ops
 induction ops with
 | nil=>intro env h L r hs;exact hs
 | cons o ops ih =>
  intro env hs L r he
  cases hs with
  | nil=>simp[dL]at he
  | cons h hs =>
   simp only[dL]at he ⊢
   split at he
   ·cases he
   ·split at he
    ·split at he
     ·rename_i yV
      rw[if_pos yV]
      split at he
      ·split at he
       ·exact ih he
       ·cases he
      ·cases he
     ·cases he
    ·split at he
     ·rename_i v h' h1
      rw[sD hc h1];exact ih he
     ·cases he
    ·split at he
     ·split at he
      ·rename_i v h' L' h1
       rw[Eb hc h1];exact ih he
      ·cases he
     ·cases he
   ·exact ih he
def gR(run:wK)(df:aL)(args:List DV)(h:aA):Option (DV×aA) :=
 match run df.body (args++List.replicate (df.ntmps-args.length) bH) h with
 | .ok (.exit _) _ _=>none
 | .ok _ env h'=>match aT h' env df.results with
  | some v=>some (v,h')
  | none=>none
 | .fail=>none
theorem pW{r1 r2:wK}(hr:nW r1 r2){df:aL}{args:List DV}{h:aA}{r:DV×aA}(hs:gR r1 df args h=some r):gR r2 df args h=some r:=by
 unfold gR at hs ⊢
 split at hs
 ·cases hs
 ·rename_i e env h' cK h1
  rw[hr _ _ _ _ _ _ h1]
  cases e with
  | exit id=>exact absurd rfl (cK id)
  | normal=>exact hs
  | ret=>exact hs
 ·cases hs
def iA(run:wK)(df:aL)(rest:List DV)(id sz off len ety:Nat)(xs:List DV)(h:aA)(e:Nat)(cap:Option Nat):Option (List DV) :=
 pM h ety sz (gR run df (.sl h.n sz off len::rest) {(h.set id .dead).push (.arr ety sz (xs++List.replicate e .unk) cap)with lim:=h.n})
theorem pE{r1 r2:wK}(hr:nW r1 r2){df:aL}{rest:List DV}{id sz off len ety:Nat}{xs:List DV}{h:aA}{e:Nat}{cap:Option Nat}{l:List DV}(hs:iA r1 df rest id sz off len ety xs h e cap=some l) :
  iA r2 df rest id sz off len ety xs h e cap=some l:=by
 unfold iA at hs ⊢
 cases hg:gR r1 df (.sl h.n sz off len::rest) {(h.set id .dead).push (.arr ety sz (xs++List.replicate e .unk) cap)with lim:=h.n} with
 | none=>rw[hg]at hs;simp[pM]at hs
 | some r=>rw[pW hr hg,←hg];exact hs
def jU(run:wK)(df:aL)(rest:List DV)(id sz off len ety:Nat)(xs:List DV)(h:aA):Option (DV×aA) :=
 match iA run df rest id sz off len ety xs h ((rest.map Bv).foldl (·+·) 0) none with
 | some l=>if(List.range ((rest.map Bv).foldl (·+·) 0)).all (fun e=>match iA run df rest id sz off len ety xs h e (some (xs.length+e))with|some l'=>uC l l'|none=>false)=true then
   some (.sl h.n sz 0 l.length,(h.set id .dead).push (.arr ety sz l none))else none
 | none=>none
theorem Sn{r1 r2:wK}(hr:nW r1 r2){df:aL}{rest:List DV}{id sz off len ety:Nat}{xs:List DV}{h:aA}{r:DV×aA}(hs:jU r1 df rest id sz off len ety xs h=some r) :
  jU r2 df rest id sz off len ety xs h=some r:=by
 unfold jU at hs ⊢
 split at hs
 ·rename_i l hl
  split at hs
  ·rename_i iD
   rw[pE hr hl]
   simp only
   rw[if_pos]
   ·exact hs
   ·refine List.all_eq_true.2 fun e he=>?_
    have:=List.all_eq_true.1 iD e he
    split at this
    ·rename_i l' G2
     rw[pE hr G2];exact this
    ·cases this
  ·cases hs
 ·cases hs
def dE(run:wK)(df:aL)(args:List DV)(h:aA):Option (DV×aA) :=
 match df.mode with
 | .full=>gR run df args h
 | .fresh=>match gR run df args {h with lim:=h.n} with
  | some (v,h')=>some (v,{h' with lim:=h.lim})
  | none=>none
 | .pure=>match args.mapM (resolve true h bO)with
  | some ds=>match gR run df ds {objs:=[],n:=0,lim:=0} with
   | some (v,h')=>match resolve false h' bO v with
    | some d=>if aZ bO d then some (d,h)else none
    | none=>none
   | none=>none
  | none=>none
 | .split=>match args with
  | .sl id sz off len::rest=>match h.get id with
   | some (.arr ety dK xs none)=>if sz=dK∧h.lim≤id then jU run df rest id sz off len ety xs h else none
   | _=>gR run df args h
  | _=>gR run df args h
 | .frz=>match oC fB h args with
  | some (as,h1)=>match as.mapM (resolve true h1 bO)with
   | some ds=>match gR run df ds {objs:=[],n:=0,lim:=0} with
    | some (v,h')=>match resolve false h' bO v with
     | some d=>if aZ bO d then some (d,h1)else none
     | none=>none
    | none=>none
   | none=>none
  | none=>none
theorem vY(run:wK)(D:bU)(f:Nat)(args:List DV)(h:aA) :
  enter run D f args h=match D.hook f with
   | some hk=>hk h args
   | none=>match D.fn f with
    | none=>none
    | some df=>dE run df args h:=by
 unfold enter
 cases D.hook f with
 | some hk=>rfl
 | none =>
  cases D.fn f with
  | none=>rfl
  | some df =>
   simp only
   unfold dE
   cases df.mode<;>rfl
theorem C9{r1 r2:wK}(hr:nW r1 r2){df:aL}{args:List DV}{h:aA}{r:DV×aA}(hs:dE r1 df args h=some r):dE r2 df args h=some r:=by
 unfold dE at hs ⊢
 split at hs
 ·exact pW hr hs
 ·split at hs
  ·rename_i v h' h1
   rw[pW hr h1];exact hs
  ·cases hs
 ·split at hs
  ·split at hs
   ·rename_i h1
    rw[pW hr h1];exact hs
   ·cases hs
  ·cases hs
 ·split at hs
  ·split at hs
   ·split at hs
    ·rename_i hc
     rw[if_pos hc]
     exact Sn hr hs
    ·cases hs
   ·rename_i cK
    exact pW hr hs
  ·exact pW hr hs
 ·split at hs
  ·split at hs
   ·split at hs
    ·rename_i h1
     rw[pW hr h1];exact hs
    ·cases hs
   ·cases hs
  ·cases hs
theorem iZ{r1 r2:wK}(hr:nW r1 r2)(D:bU):qG (enter r1 D) (enter r2 D):=by
 intro f args h r hs
 rw[vY]at hs ⊢
 split at hs
 ·exact hs
 ·split at hs
  ·cases hs
  ·exact C9 hr hs
theorem AF{c1 c2:fF}{r1 r2:wK}(hc:qG c1 c2)(hr:nW r1 r2){it nx ok en X Y p:Nat}{ops:List aH}{b:aI}:∀(l:List (DV×DV)) {env:Env} {h:aA} {e:Ex} {aU:Env} {h':aA},
  rounds c1 r1 it nx ok en X Y p ops b l env h=.ok e aU h'→rounds c2 r2 it nx ok en X Y p ops b l env h=.ok e aU h':=by
 intro l
 induction l with
 | nil=>intro env h e aU h' he;exact he
 | cons x r ih =>
  intro env h e aU h' he
  obtain⟨k,v⟩:=x
  simp only[rounds]at he ⊢
  split at he
  ·split at he
   ·rename_i bS
    rw[if_pos bS]
    split at he
    ·rename_i h2
     rw[wQ hc _ h2]
     simp only
     split at he
     ·rename_i h3;rw[hr _ _ _ _ _ _ h3];exact ih he
     ·rename_i h3
      rw[hr _ _ _ _ _ _ h3]
      simp only
      split at he
      ·rename_i hi;rw[if_pos hi];exact ih he
      ·rename_i hi;rw[if_neg hi];exact he
     ·rename_i h3 h4
      rw[hr _ _ _ _ _ _ he]
      cases e with
      | normal=>exact absurd he (h3 _ _)
      | exit i=>exact absurd he (h4 _ _ _)
      | ret=>rfl
    ·cases he
   ·cases he
  ·cases he
theorem Ld{c1 c2:fF}{r1 r2:wK}(hc:qG c1 c2)(hr:nW r1 r2){it nx ok en X Y m:Nat}{kl:List Nat}{ops:List aH}{b:aI}{es p:List (DV×DV)}{env:Env}{h:aA}{e:Ex}{aU:Env}{h':aA}
  (he:pK c1 r1 it nx ok en X Y kl ops b m es env h p=.ok e aU h'):pK c2 r2 it nx ok en X Y kl ops b m es env h p=.ok e aU h':=by
 unfold pK at he ⊢
 cases DZ:rounds c1 r1 it nx ok en X Y h.n ops b p (env.set it (.ptr h.n 0 0 0)) (rY h m)with
 | fail=>rw[DZ]at he;cases he
 | ok e1 env1 h1=>rw[AF hc hr _ DZ,←DZ];exact he
theorem QD{e:Ex}{env:Env}{h:aA}{r:Res}(hs:CL e env h r=true):∃ e1 env1 h1,r=.ok e1 env1 h1:=by
 cases r with
 | fail=>cases hs
 | ok e1 env1 h1=>exact⟨_,_,_,rfl⟩
theorem EK{c1 c2:fF}{r1 r2:wK}(hc:qG c1 c2)(hr:nW r1 r2){it nx ok en X Y:Nat}{kl:List Nat}{ops:List aH}{b:aI}{env:Env}{h:aA}{x:Option (Nat×List (DV×DV))}{e:Ex}{aU:Env}{h':aA}
  (he:Fq c1 r1 it nx ok en X Y kl ops b env h x=.ok e aU h'):Fq c2 r2 it nx ok en X Y kl ops b env h x=.ok e aU h':=by
 cases x with
 | none=>cases he
 | some x =>
  obtain⟨m,es⟩:=x
  simp only[Fq]at he ⊢
  split at he
  ·rename_i h3
   rw[Ld hc hr h3]
   simp only
   split at he
   ·rename_i iD
    rw[if_pos]
    ·exact he
    ·refine List.all_eq_true.2 fun p hp=>?_
     have:=List.all_eq_true.1 iD p hp
     obtain⟨e1,env1,h1,h4⟩:=QD this
     rw[Ld hc hr h4,←h4];exact this
   ·cases he
  ·cases he
theorem Qn(D:bU):∀n,nW (dB D n) (dB D (n+1)):=by
 intro n
 induction n with
 | zero=>intro c env h e aU h' he;cases he
 | succ n ih =>
  intro c env h e aU h' he
  cases c<;>unfold dB at he<;>unfold dB<;>simp only at he ⊢
  case skip=>exact he
  case exit=>exact he
  case ret=>exact he
  case seq a b =>
   split at he
   ·rename_i h1
    rw[ih _ _ _ _ _ _ h1];exact ih _ _ _ _ _ _ he
   ·rename_i cK
    rw[ih _ _ _ _ _ _ he]
    cases e with
    | normal=>exact absurd he (cK _ _)
    | _=>rfl
  case cond c a b =>
   split at he
   ·exact ih _ _ _ _ _ _ he
   ·exact ih _ _ _ _ _ _ he
   ·cases he
  case block id b =>
   split at he
   ·rename_i h1
    rw[ih _ _ _ _ _ _ h1];exact he
   ·rename_i cK
    rw[ih _ _ _ _ _ _ he]
    cases e with
    | exit i=>exact absurd he (cK _ _ _)
    | _=>rfl
  case loop b =>
   split at he
   ·rename_i h1
    rw[ih _ _ _ _ _ _ h1];exact ih _ _ _ _ _ _ he
   ·rename_i cK
    rw[ih _ _ _ _ _ _ he]
    cases e with
    | normal=>exact absurd he (cK _ _)
    | _=>rfl
  case region ops =>
   split at he
   ·rename_i h1
    rw[wQ (iZ ih D) _ h1];exact he
   ·cases he
  case draw ops =>
   split at he
   ·rename_i h1
    rw[tA (iZ ih D) _ h1];exact he
   ·cases he
  case walk x it nx ok en X Y kl ops b=>exact EK (iZ ih D) ih he
theorem gO(D:bU){n m:Nat}(h:n≤m):nW (dB D n) (dB D m):=by
 induction h with
 | refl=>exact .refl _
 | step _ ih=>exact ih.trans (Qn D _)
open Classical in
noncomputable def ev(D:bU):wK:=fun c env h =>
 if hx:∃ x:Nat×Ex×Env×aA,dB D x.1 c env h=.ok x.2.1 x.2.2.1 x.2.2.2 then .ok hx.choose.2.1 hx.choose.2.2.1 hx.choose.2.2.2 else .fail
theorem eB{D:bU}{c:aI}{env:Env}{h:aA}{e:Ex}{aU:Env}{h':aA}:ev D c env h=.ok e aU h'↔∃ n,dB D n c env h=.ok e aU h':=by
 unfold ev
 constructor
 ·intro hs
  split at hs
  ·rename_i hx
   have:=hx.choose_spec
   exact⟨_,this.trans hs⟩
  ·cases hs
 ·rintro⟨n,hn⟩
  have hx:∃ x:Nat×Ex×Env×aA,dB D x.1 c env h=.ok x.2.1 x.2.2.1 x.2.2.2:=⟨⟨n,e,aU,h'⟩,hn⟩
  rw[dif_pos hx]
  have h1:=gO D (Nat.le_max_left n hx.choose.1) _ _ _ _ _ _ hn
  have h2:=gO D (Nat.le_max_right n hx.choose.1) _ _ _ _ _ _ hx.choose_spec
  rw[h1]at h2
  exact h2.symm
theorem Ia(D:bU)(n:Nat):nW (dB D n) (ev D):=fun _ _ _ _ _ _ h=>eB.2 ⟨n,h⟩
theorem wS{a b:Res}(h:∀e env h,a=.ok e env h↔b=.ok e env h):a=b:=by
 cases a with
 | fail=>cases b with
  | fail=>rfl
  | ok e env h0=>exact((h e env h0).2 rfl)
 | ok e env h0=>exact((h e env h0).1 rfl).symm
noncomputable def fc(D:bU):fF:=enter (ev D) D
theorem iY{D:bU}{df:aL}{args:List DV}{h:aA}{r:DV×aA}(hs:gR (ev D) df args h=some r):∃ n,gR (dB D n) df args h=some r:=by
 cases hv:ev D df.body (args++List.replicate (df.ntmps-args.length) bH) h with
 | fail=>unfold gR at hs;rw[hv]at hs;cases hs
 | ok e env h' =>
  obtain⟨n,hn⟩:=eB.1 hv
  refine⟨n,?_⟩
  unfold gR at hs ⊢
  rw[hv]at hs
  rw[hn]
  exact hs
theorem Aa{D:bU}{df:aL}{rest:List DV}{id sz off len ety:Nat}{xs:List DV}{h:aA}{e:Nat}{cap:Option Nat}{l:List DV}(hs:iA (ev D) df rest id sz off len ety xs h e cap=some l) :
  ∃ n,iA (dB D n) df rest id sz off len ety xs h e cap=some l:=by
 unfold iA at hs
 cases hg:gR (ev D) df (.sl h.n sz off len::rest) {(h.set id .dead).push (.arr ety sz (xs++List.replicate e .unk) cap)with lim:=h.n} with
 | none=>rw[hg]at hs;simp[pM]at hs
 | some r =>
  obtain⟨n,hn⟩:=iY hg
  refine⟨n,?_⟩
  unfold iA
  rw[hn,←hg];exact hs
theorem Gc{D:bU}{df:aL}{rest:List DV}{id sz off len ety:Nat}{xs:List DV}{h:aA}{r:DV×aA}(hs:jU (ev D) df rest id sz off len ety xs h=some r) :
  ∃ n,jU (dB D n) df rest id sz off len ety xs h=some r:=by
 unfold jU at hs
 split at hs
 ·rename_i l hl
  split at hs
  ·rename_i iD
   obtain⟨n0,hn0⟩:=Aa hl
   have many:∀es:List Nat,(es.all fun e=>match iA (ev D) df rest id sz off len ety xs h e (some (xs.length+e))with|some l'=>uC l l'|none=>false)=true →
     ∃ n,(es.all fun e=>match iA (dB D n) df rest id sz off len ety xs h e (some (xs.length+e))with|some l'=>uC l l'|none=>false)=true:=by
    intro es
    induction es with
    | nil=>intro _;exact⟨0,rfl⟩
    | cons e es ih =>
     intro ha
     simp only[List.all_cons,Bool.and_eq_true]at ha
     obtain⟨n1,h1⟩:=ih ha.2
     have h2:=ha.1
     split at h2
     ·rename_i l' G2
      obtain⟨n2,h3⟩:=Aa G2
      refine⟨max n1 n2,?_⟩
      simp only[List.all_cons,Bool.and_eq_true]
      refine⟨by rw[pE (gO D (Nat.le_max_right n1 n2)) h3];exact h2,List.all_eq_true.2 fun e he=>?_⟩
      have:=List.all_eq_true.1 h1 e he
      split at this
      ·rename_i l2 Fb
       rw[pE (gO D (Nat.le_max_left n1 n2)) Fb];exact this
      ·cases this
     ·cases h2
   obtain⟨n1,hn1⟩:=many _ iD
   refine⟨max n0 n1,?_⟩
   unfold jU
   rw[pE (gO D (Nat.le_max_left n0 n1)) hn0]
   simp only
   rw[if_pos]
   ·exact hs
   ·refine List.all_eq_true.2 fun e he=>?_
    have:=List.all_eq_true.1 hn1 e he
    split at this
    ·rename_i l2 Fb
     rw[pE (gO D (Nat.le_max_right n0 n1)) Fb];exact this
    ·cases this
  ·cases hs
 ·cases hs
theorem Kc{D:bU}{df:aL}{args:List DV}{h:aA}{r:DV×aA}(hs:dE (ev D) df args h=some r):∃ n,dE (dB D n) df args h=some r:=by
 unfold dE at hs
 split at hs
 ·rename_i hm
  obtain⟨n,hn⟩:=iY hs
  exact⟨n,by unfold dE;rw[hm];exact hn⟩
 ·rename_i hm
  split at hs
  ·rename_i v h' h1
   obtain⟨n,hn⟩:=iY h1
   exact⟨n,by unfold dE;rw[hm];simp only;rw[hn];exact hs⟩
  ·cases hs
 ·rename_i hm
  split at hs
  ·rename_i ds Dx
   split at hs
   ·rename_i v h' h1
    obtain⟨n,hn⟩:=iY h1
    exact⟨n,by unfold dE;rw[hm];simp only;rw[Dx];simp only;rw[hn];exact hs⟩
   ·cases hs
  ·cases hs
 ·rename_i hm
  split at hs
  ·rename_i id sz off len rest
   split at hs
   ·rename_i ety dK xs hg
    split at hs
    ·rename_i hc
     obtain⟨n,hn⟩:=Gc hs
     exact⟨n,by unfold dE;rw[hm];simp only;rw[hg];simp only;rw[if_pos hc];exact hn⟩
    ·cases hs
   ·rename_i cK
    obtain⟨n,hn⟩:=iY hs
    refine⟨n,?_⟩
    unfold dE
    rw[hm]
    simp only
    exact hn
  ·rename_i cK
   obtain⟨n,hn⟩:=iY hs
   refine⟨n,?_⟩
   unfold dE
   rw[hm]
   simp only
   exact hn
 ·rename_i hm
  split at hs
  ·rename_i as h1 ea
   split at hs
   ·rename_i ds Dx
    split at hs
    ·rename_i v h' h2
     obtain⟨n,hn⟩:=iY h2
     exact⟨n,by unfold dE;rw[hm];simp only;rw[ea];simp only;rw[Dx];simp only;rw[hn];exact hs⟩
    ·cases hs
   ·cases hs
  ·cases hs
theorem Be{D:bU}{f:Nat}{args:List DV}{h:aA}{r:DV×aA}:fc D f args h=some r↔∃ n,Ir D n f args h=some r:=by
 constructor
 ·intro hs
  unfold fc at hs
  rw[vY]at hs
  split at hs
  ·rename_i hk hh
   exact⟨0,by unfold Ir;rw[vY,hh];exact hs⟩
  ·rename_i hh
   split at hs
   ·cases hs
   ·rename_i df hdf
    obtain⟨n,hn⟩:=Kc hs
    exact⟨n,by unfold Ir;rw[vY,hh,hdf];exact hn⟩
 ·rintro⟨n,hn⟩
  exact iZ (Ia D n) D f args h r hn
theorem Ip(D:bU)(n:Nat):qG (enter (dB D n) D) (fc D):=iZ (Ia D n) D
theorem qQ{D:bU}{o:DOp}{env:Env}{h:aA}{r:DV×aA}(hs:bC (fc D) o env h=some r):∃ n,bC (enter (dB D n) D) o env h=some r:=by
 cases o
 case call f args =>
  simp only[bC]at hs ⊢
  split at hs
  ·exact Be.1 hs
  ·cases hs
 all_goals exact⟨0,hs⟩
theorem Qi{D:bU}{l:Nat}{o:DOp}{env:Env}{h:aA}{r:DV×aA}(hs:lL (fc D) l o env h=some r):∃ n,lL (enter (dB D n) D) l o env h=some r:=by
 unfold lL at hs
 split at hs
 ·rename_i v h' h1
  obtain⟨n,hn⟩:=qQ h1
  exact⟨n,by unfold lL;rw[hn];exact hs⟩
 ·cases hs
theorem Ii{D:bU}{l q:Nat}{L:cA}{o:DOp}{env:Env}{h:aA}{r:DV×aA×cA}(hs:cI (fc D) l q L o env h=some r):∃ n,cI (enter (dB D n) D) l q L o env h=some r:=by
 unfold cI at hs
 split at hs
 ·rename_i id hp
  exact⟨0,by unfold cI;rw[hp];exact hs⟩
 ·rename_i hp
  split at hs
  ·rename_i hpo
   unfold lF at hs
   split at hs
   ·split at hs
    ·rename_i h1
     obtain⟨n,hn⟩:=qQ h1
     exact⟨n,by unfold cI;rw[hp];simp only;rw[hpo];simp only[lF];rw[hn];exact hs⟩
    ·cases hs
   ·cases hs
  ·rename_i hpo
   split at hs
   ·rename_i v h' h1
    obtain⟨n,hn⟩:=Qi h1
    exact⟨n,by unfold cI;rw[hp];simp only;rw[hpo];simp only;rw[hn];exact hs⟩
   ·cases hs
theorem Ol{D:bU}:∀(ops:List aH) {env:Env} {h:aA} {r:Env×aA},eM (fc D) ops env h=some r→∃ n,eM (enter (dB D n) D) ops env h=some r:=by
 intro ops
 induction ops with
 | nil=>intro env h r hs;exact⟨0,hs⟩
 | cons o ops ih =>
  intro env h r hs
  simp only[eM]at hs
  split at hs
  ·rename_i hw
   split at hs
   ·rename_i v h' h1
    obtain⟨n1,k1⟩:=qQ h1
    obtain⟨n2,k2⟩:=ih hs
    refine⟨max n1 n2,?_⟩
    simp only[eM,hw]
    rw[sD (iZ (gO D (Nat.le_max_left n1 n2)) D) k1]
    exact wQ (iZ (gO D (Nat.le_max_right n1 n2)) D) _ k2
   ·cases hs
  ·rename_i hw
   obtain⟨n2,k2⟩:=ih hs
   exact⟨n2,by simp only[eM,hw];exact k2⟩
  ·cases hs
theorem Js{D:bU}:∀(ops:List aH) {env:Env} {hs:List aA} {L:cA} {r:Env×aA},dL (fc D) ops env hs L=some r→∃ n,dL (enter (dB D n) D) ops env hs L=some r:=by
 intro ops
 induction ops with
 | nil=>intro env h L r hs;exact⟨0,hs⟩
 | cons o ops ih =>
  intro env hs L r he
  cases hs with
  | nil=>simp[dL]at he
  | cons h hs =>
   simp only[dL]at he
   split at he
   ·cases he
   ·rename_i hw
    split at he
    ·rename_i hk
     split at he
     ·rename_i yV
      split at he
      ·rename_i h0 hsn
       split at he
       ·rename_i v h1 cS
        obtain⟨n,hn⟩:=ih he
        exact⟨n,by simp only[dL,hw,hk,hsn,cS,if_pos yV];exact hn⟩
       ·cases he
      ·cases he
     ·cases he
    ·rename_i hk
     split at he
     ·rename_i v h' h1
      obtain⟨n1,k1⟩:=qQ h1
      obtain⟨n2,k2⟩:=ih he
      refine⟨max n1 n2,?_⟩
      simp only[dL,hw,hk]
      rw[sD (iZ (gO D (Nat.le_max_left n1 n2)) D) k1]
      exact tA (iZ (gO D (Nat.le_max_right n1 n2)) D) _ k2
     ·cases he
    ·rename_i hk
     split at he
     ·rename_i h0 hsn
      split at he
      ·rename_i v h' L' h1
       obtain⟨n1,k1⟩:=Ii h1
       obtain⟨n2,k2⟩:=ih he
       refine⟨max n1 n2,?_⟩
       simp only[dL,hw,hk,hsn]
       rw[Eb (iZ (gO D (Nat.le_max_left n1 n2)) D) k1]
       exact tA (iZ (gO D (Nat.le_max_right n1 n2)) D) _ k2
      ·cases he
     ·cases he
   ·rename_i hw
    obtain⟨n2,k2⟩:=ih he
    exact⟨n2,by simp only[dL,hw];exact k2⟩
section
variable (D:bU) (env:Env) (h:aA)
theorem PY:ev D .skip env h=.ok .normal env h:=eB.2 ⟨1,rfl⟩
theorem QA(id:Nat):ev D (.exit id) env h=.ok (.exit id) env h:=eB.2 ⟨1,rfl⟩
theorem WX:ev D .ret env h=.ok .ret env h:=eB.2 ⟨1,rfl⟩
theorem WW(a b:aI):ev D (.seq a b) env h=match ev D a env h with
  | .ok .normal env h=>ev D b env h
  | r=>r:=by
 apply wS
 intro e aU h'
 constructor
 ·intro hs
  obtain⟨n,hn⟩:=eB.1 hs
  cases n with
  | zero=>cases hn
  | succ n =>
   simp only[dB]at hn
   split at hn
   ·rename_i h1
    rw[eB.2 ⟨n,h1⟩]
    exact eB.2 ⟨n,hn⟩
   ·rename_i cK
    rw[eB.2 ⟨n,hn⟩]
    cases e with
    | normal=>exact absurd hn (cK _ _)
    | _=>rfl
 ·intro hs
  split at hs
  ·rename_i env1 h1 hv
   obtain⟨n1,k1⟩:=eB.1 hv
   obtain⟨n2,k2⟩:=eB.1 hs
   refine eB.2 ⟨max n1 n2+1,?_⟩
   simp only[dB]
   rw[gO D (Nat.le_max_left n1 n2) _ _ _ _ _ _ k1]
   exact gO D (Nat.le_max_right n1 n2) _ _ _ _ _ _ k2
  ·rename_i cK
   obtain⟨n1,k1⟩:=eB.1 hs
   refine eB.2 ⟨n1+1,?_⟩
   simp only[dB]
   rw[k1]
   cases e with
   | normal=>exact absurd hs (cK _ _)
   | _=>rfl
theorem QC(c:Opd)(a b:aI):ev D (.cond c a b) env h=match c.eval env with
  | .bool true=>ev D a env h
  | .bool false=>ev D b env h
  | _=>.fail:=by
 apply wS
 intro e aU h'
 constructor
 ·intro hs
  obtain⟨n,hn⟩:=eB.1 hs
  cases n with
  | zero=>cases hn
  | succ n =>
   simp only[dB]at hn
   split at hn
   ·rename_i hc;rw[hc];exact eB.2 ⟨n,hn⟩
   ·rename_i hc;rw[hc];exact eB.2 ⟨n,hn⟩
   ·cases hn
 ·intro hs
  split at hs
  ·rename_i hc
   obtain⟨n1,k1⟩:=eB.1 hs
   exact eB.2 ⟨n1+1,by simp only[dB,hc];exact k1⟩
  ·rename_i hc
   obtain⟨n1,k1⟩:=eB.1 hs
   exact eB.2 ⟨n1+1,by simp only[dB,hc];exact k1⟩
  ·cases hs
theorem JR(id:Nat)(b:aI):ev D (.block id b) env h=match ev D b env h with
  | .ok (.exit id') env h=>if id'=id then .ok .normal env h else .ok (.exit id') env h
  | r=>r:=by
 apply wS
 intro e aU h'
 constructor
 ·intro hs
  obtain⟨n,hn⟩:=eB.1 hs
  cases n with
  | zero=>cases hn
  | succ n =>
   simp only[dB]at hn
   split at hn
   ·rename_i h1
    rw[eB.2 ⟨n,h1⟩]
    exact hn
   ·rename_i cK
    rw[eB.2 ⟨n,hn⟩]
    cases e with
    | exit i=>exact absurd hn (cK _ _ _)
    | _=>rfl
 ·intro hs
  split at hs
  ·rename_i h1
   obtain⟨n1,k1⟩:=eB.1 h1
   exact eB.2 ⟨n1+1,by simp only[dB];rw[k1];exact hs⟩
  ·rename_i cK
   obtain⟨n1,k1⟩:=eB.1 hs
   refine eB.2 ⟨n1+1,?_⟩
   simp only[dB]
   rw[k1]
   cases e with
   | exit i=>exact absurd hs (cK _ _ _)
   | _=>rfl
theorem PZ(b:aI):ev D (.loop b) env h=match ev D b env h with
  | .ok .normal env h=>ev D (.loop b) env h
  | r=>r:=by
 apply wS
 intro e aU h'
 constructor
 ·intro hs
  obtain⟨n,hn⟩:=eB.1 hs
  cases n with
  | zero=>cases hn
  | succ n =>
   simp only[dB]at hn
   split at hn
   ·rename_i h1
    rw[eB.2 ⟨n,h1⟩]
    exact eB.2 ⟨n,hn⟩
   ·rename_i cK
    rw[eB.2 ⟨n,hn⟩]
    cases e with
    | normal=>exact absurd hn (cK _ _)
    | _=>rfl
 ·intro hs
  split at hs
  ·rename_i env1 h1 hv
   obtain⟨n1,k1⟩:=eB.1 hv
   obtain⟨n2,k2⟩:=eB.1 hs
   refine eB.2 ⟨max n1 n2+1,?_⟩
   simp only[dB]
   rw[gO D (Nat.le_max_left n1 n2) _ _ _ _ _ _ k1]
   exact gO D (Nat.le_max_right n1 n2) _ _ _ _ _ _ k2
  ·rename_i cK
   obtain⟨n1,k1⟩:=eB.1 hs
   refine eB.2 ⟨n1+1,?_⟩
   simp only[dB]
   rw[k1]
   cases e with
   | normal=>exact absurd hs (cK _ _)
   | _=>rfl
theorem CK(ops:List aH):ev D (.region ops) env h=match eM (fc D) ops env h with
  | some (env,h)=>.ok .normal env h
  | none=>.fail:=by
 apply wS
 intro e aU h'
 constructor
 ·intro hs
  obtain⟨n,hn⟩:=eB.1 hs
  cases n with
  | zero=>cases hn
  | succ n =>
   simp only[dB]at hn
   split at hn
   ·rename_i h1
    rw[wQ (Ip D n) _ h1];exact hn
   ·cases hn
 ·intro hs
  split at hs
  ·rename_i h1
   obtain⟨n1,k1⟩:=Ol _ h1
   exact eB.2 ⟨n1+1,by simp only[dB];rw[k1];exact hs⟩
  ·cases hs
theorem QB(ops:List aH):ev D (.draw ops) env h=match dL (fc D) ops env [h] .start with
  | some (env,h)=>.ok .normal env h
  | none=>.fail:=by
 apply wS
 intro e aU h'
 constructor
 ·intro hs
  obtain⟨n,hn⟩:=eB.1 hs
  cases n with
  | zero=>cases hn
  | succ n =>
   simp only[dB]at hn
   split at hn
   ·rename_i h1
    rw[tA (Ip D n) _ h1];exact hn
   ·cases hn
 ·intro hs
  split at hs
  ·rename_i h1
   obtain⟨n1,k1⟩:=Js _ h1
   exact eB.2 ⟨n1+1,by simp only[dB];rw[k1];exact hs⟩
  ·cases hs
theorem Vt(f:Nat)(args:List DV):fc D f args h=match D.hook f with
  | some hk=>hk h args
  | none=>match D.fn f with
   | none=>none
   | some df=>dE (ev D) df args h:=vY _ _ _ _ _
end
end Go.Dm
