/-
Part 27 of "Dm": the machine's runs are the program's.
-/
import Derived.Test.YtloabemenciijaaGreatDoorMm3
import Derived.RowKit3
import Derived.Lib.Overlaps
import Derived.Lib.Bytealg
import Derived.Below
set_option linter.all false
namespace Go.Dm
structure Good (P:Program) (D:DProg):Prop where
 mixed:P.follows .mixedOrders=true
 comp:∀f df,D.fn f=some df→∃ fn,P.funcs[f]?=some fn∧compFunc P fn df.mode=some df
 hooks:∀f hk,D.hook f=some hk→∀args h d h' c vals,hk h args=some (d,h')→Rel h c→VRs c args vals→CallOk P f vals.toArray h c h' d
 keep:HooksKeep D
section
variable {P:Program} {D:DProg}
def CodeSound (P:Program) (D:DProg) (n:Nat):Prop :=
 ∀code dc h c env a e env' h' Q,compCode P code=some dc→exec D n dc env h=.ok e env' h'→Rel h c→EnvR c env a→(∀a' w',St c h' env' a' w'→Q (exitOf e) a' w')→code.wp P Q a c.w
def LoopSound (P:Program) (D:DProg) (n:Nat):Prop :=
 ∀code dc h c env a e env' h' Q,compCode P code=some dc→exec D n (.loop dc) env h=.ok e env' h'→Rel h c→EnvR c env a→(∀a' w',St c h' env' a' w'→Q (exitOf e) a' w')→Code.rounds P code Q n a c.w
theorem frame_env {c:Ctx} {args:List DV} {vals:List Value} (hv:VRs c args vals) (n:Nat) :
  EnvR c (args++List.replicate (n-args.length) undefD) {tmps:=vals.toArray++Array.replicate (n-vals.toArray.size) Go.undef,defers:=[]}:=by
 have hl:=hv.1
 refine ⟨by simp [hl],rfl,fun i hi=>?_⟩
 simp only [List.length_append,List.length_replicate]at hi
 by_cases h1:i<args.length
 ·have h2:i<vals.length:=by omega
  rw [List.getElem_append_left h1]
  have:=hv.2 i h1 h2
  simpa [Array.getElem?_append,h2] using this
 ·rw [List.getElem_append_right (by omega)]
  simp only [List.getElem_replicate]
  have h2:¬i<vals.length:=by omega
  have h3:i-vals.length<n-vals.length:=by omega
  have:(vals.toArray++Array.replicate (n-vals.toArray.size) Go.undef).getD i Go.undef=Go.undef:=by
   simp [Array.getElem?_append,h2,h3]
  rw [this]
  exact .undef
theorem go_sound {n : Nat} (hC : CodeSound P D n) {fn : Func} {body : Code} {df : DFunc} (hb : fn.body = some body) (hcb : compCode P body = some df.body) (hrs : fn.results.toList.mapM (compRes P) = some df.results) (hnt : df.ntmps = fn.ntmps)
    {f : Nat} (hf : P.funcs[f]? = some fn) {args : List DV} {vals : List Value} {h : Heap} {c : Ctx} (hR : Rel h c) (hv : VRs c args vals) {d : DV} {h' : Heap}
    (he : (match exec D n df.body (args ++ List.replicate (df.ntmps - args.length) undefD) h with
          | .ok (.exit _) _ _ => none
          | .ok _ env h' => match resultsOf h' env df.results with
            | some v => some (v, h')
            | none => none
          | .fail => none) = some (d, h')) : Calls P f vals.toArray c.w (CallPost h c h' d) := by
  have fin : ∀ e env' h1, e = Ex.normal ∨ e = Ex.ret → exec D n df.body (args ++ List.replicate (df.ntmps - args.length) undefD) h = .ok e env' h1 → resultsOf h1 env' df.results = some d → h1 = h' → Calls P f vals.toArray c.w (CallPost h c h' d) := by
    intro e env' h1 hex hrun hres e1
    subst e1
    refine calls_of_wp hf hb (hC body df.body h c _ _ e env' h1 _ hcb hrun hR (by have := frame_env hv df.ntmps; rw [hnt] at this ⊢; exact this) fun a' w' hst => ?_)
    obtain ⟨ρ', k1, k2, k3⟩ := hst
    obtain ⟨v, r1, r2⟩ := results_sound (P := P) (fn := fn) hrs k1 k3 hres
    have : a'.defers = [] ∧ ∃ v, (results fn a'.tmps).run P w' = .ok v w' ∧ CallPost h c h1 d (.returned v) w' := ⟨k3.defers, v, r1, v, rfl, ρ', k1, k2, r2⟩
    rcases hex with rfl | rfl
    · exact this
    · exact this
  split at he
  · cases he
  · rename_i e env' h1 hne hrun
    split at he
    · rename_i v hres
      cases he
      refine fin e env' _ ?_ hrun hres rfl
      cases e with
      | normal => exact .inl rfl
      | exit id => exact absurd rfl (hne id)
      | ret => exact .inr rfl
    · cases he
  · cases he
theorem go_keeps (hk : HooksKeep D) {n : Nat} {df : DFunc} {args : List DV} {h h' : Heap} {d : DV} (hl : h.lim ≤ h.n)
    (he : (match exec D n df.body (args ++ List.replicate (df.ntmps - args.length) undefD) h with
          | .ok (.exit _) _ _ => none
          | .ok _ env h' => match resultsOf h' env df.results with
            | some v => some (v, h')
            | none => none
          | .fail => none) = some (d, h')) : Keeps h h' := by
  split at he
  · cases he
  · rename_i h2
    split at he
    · cases he; exact exec_keeps hk n _ _ _ _ _ _ hl h2
    · cases he
  · cases he
theorem callFunc_enter {f : FuncId} {fn : Func} {body : Code} (hf : P.funcs[f]? = some fn) (hb : fn.body = some body) (hn : fn.name ≠ "runtime.NumGoroutine") (vals : Array Value) (w : World) : (callFunc f vals).run P w = .ok (.enter f vals) w := by
 simp [callFunc,hf,hb,hn]
theorem enter_sound (G:Good P D) {n:Nat} (hC:CodeSound P D n):CallSound P (enter (exec D n) D):=by
 intro f args h d h' c vals he hR hv
 unfold enter at he
 split at he
 ·rename_i hk hk';exact G.hooks f hk hk' args h d h' c vals he hR hv
 ·split at he
  ·cases he
  ·rename_i df hdf
   obtain ⟨fn,hf,hcf⟩:=G.comp f df hdf
   unfold compFunc at hcf
   split at hcf
   ·rename_i body hb
    split at hcf
    ·rename_i b rs hcb hrs
     split at hcf
     ·rename_i hname
      refine .inr ⟨f,vals.toArray,callFunc_enter hf hb hname _ _,?_⟩
      have hdfe:df={ntmps:=fn.ntmps,results:=rs,body:=b,mode:=df.mode}:=(Option.some.inj hcf).symm
      have e1:df.body=b:=by rw [hdfe]
      have e2:df.results=rs:=by rw [hdfe]
      have e3:df.ntmps=fn.ntmps:=by rw [hdfe]
      simp only at he
      split at he
      ·exact go_sound hC hb (by rw [e1];exact hcb) (by rw [e2];exact hrs) e3 hf hR hv he
      ·split at he
       ·rename_i v1 h1 hgo
        cases he
        have:=go_sound hC hb (by rw [e1];exact hcb) (by rw [e2];exact hrs) e3 hf (hR.setLim (Nat.le_refl _)) hv hgo
        refine this.mono fun e w' hp=>?_
        obtain ⟨v,e0,ρ',k1,k2,k3⟩:=hp
        have hkeep:=go_keeps G.keep (Nat.le_refl _) hgo
        exact ⟨v,e0,ρ',k1.setLim (Nat.le_trans hR.lim hkeep.n),k2,k3⟩
       ·cases he
      ·split at he
       ·rename_i ds hds
        split at he
        ·rename_i v1 h1 hgo
         split at he
         ·rename_i d1 hd1
          split at he
          ·rename_i hun
           cases he
           have:=go_sound hC hb (by rw [e1];exact hcb) (by rw [e2];exact hrs) e3 hf hR.lend (resolveL_in hR hds hv) hgo
           refine this.mono fun e w' hp=>?_
           obtain ⟨v,e0,ρ',k1,k2,k3⟩:=hp
           exact ⟨v,e0,pure_out hR k1 k2 k3 hd1 hun⟩
          ·cases he
         ·cases he
        ·cases he
       ·cases he
      ·split at he
       ·rename_i id sz off len rest
        split at he
        ·rename_i ety sz' xs hgid
         split at he
         ·rename_i hcond
          obtain ⟨hcond1,hcond2⟩:=hcond
          subst hcond1
          split at he
          ·rename_i l hl
           split at he
           ·rename_i hall
            cases he
            have hv0:∃ v0 vr,vals=v0::vr:=by
             cases vals with
             | nil=>have:=hv.1;simp at this
             | cons v0 vr=>exact ⟨v0,vr,rfl⟩
            obtain ⟨v0,vr,rfl⟩:=hv0
            have hvh:VR c (.sl id sz off len) v0:=hv.2 0 (by simp) (by simp)
            obtain ⟨e,cap,ρ1,hcase,k1,k2,k3⟩:=split_in hR hgid hvh ((rest.map visLen).foldl (·+·) 0)
            have hscn:settle h ety sz (match exec D n df.body ((.sl h.n sz off len::rest)++List.replicate (df.ntmps-(DV.sl h.n sz off len::rest).length) undefD) {(h.set id .dead).push (.arr ety sz (xs++List.replicate e .unk) cap) with lim:=h.n} with
              | .ok (.exit _) _ _=>none
              | .ok _ env h'=>match resultsOf h' env df.results with
               | some v=>some (v,h')
               | none=>none
              | .fail=>none)=some l:=by
             rcases hcase with ⟨rfl,rfl⟩|⟨hlt,rfl⟩
             ·exact hl
             ·have:=List.all_eq_true.1 hall e (List.mem_range.2 hlt)
              split at this
              ·rename_i l' hl'
               rw [beqL_eq _ _ this];exact hl'
              ·cases this
            have hgo:∃ r hj,(match exec D n df.body ((.sl h.n sz off len::rest)++List.replicate (df.ntmps-(DV.sl h.n sz off len::rest).length) undefD) {(h.set id .dead).push (.arr ety sz (xs++List.replicate e .unk) cap) with lim:=h.n} with
              | .ok (.exit _) _ _=>none
              | .ok _ env h'=>match resultsOf h' env df.results with
               | some v=>some (v,h')
               | none=>none
              | .fail=>none)=some (r,hj):=by
             cases hx:(match exec D n df.body ((.sl h.n sz off len::rest)++List.replicate (df.ntmps-(DV.sl h.n sz off len::rest).length) undefD) {(h.set id .dead).push (.arr ety sz (xs++List.replicate e .unk) cap) with lim:=h.n} with
              | .ok (.exit _) _ _=>none
              | .ok _ env h'=>match resultsOf h' env df.results with
               | some v=>some (v,h')
               | none=>none
              | .fail=>none) with
             | none=>rw [hx]at hscn;cases hscn
             | some p=>exact ⟨p.1,p.2,rfl⟩
            obtain ⟨r,hj,hgo⟩:=hgo
            rw [hgo]at hscn
            have hlim:h.n≤((h.set id .dead).push (.arr ety sz (xs++List.replicate e .unk) cap)).n:=Nat.le_succ _
            have hvs:VRs (c.next c.w ρ1 ((h.set id .dead).push (.arr ety sz (xs++List.replicate e .unk) cap))) (.sl h.n sz off len::rest) (v0::vr):=by
             refine ⟨hv.1,fun i h1 h2=>?_⟩
             cases i with
             | zero=>exact k3
             | succ i=>exact (hv.2 (i+1) h1 h2).mono k2
            have hcall:=go_sound hC hb (by rw [e1];exact hcb) (by rw [e2];exact hrs) e3 hf (k1.setLim hlim) hvs hgo
            have hkp:=go_keeps G.keep hlim hgo
            refine hcall.mono fun e w' hp=>?_
            obtain ⟨v,e0,ρj,q1,q2,q3⟩:=hp
            refine ⟨v,e0,split_out hR hgid q1 (k2.trans q2) (fun i hi=>?_) hscn q3⟩
            have:=hkp.get i hi
            rw [this]
            exact get_push_old hi
           ·cases he
          ·cases he
         ·cases he
        ·exact go_sound hC hb (by rw [e1];exact hcb) (by rw [e2];exact hrs) e3 hf hR hv he
       ·exact go_sound hC hb (by rw [e1];exact hcb) (by rw [e2];exact hrs) e3 hf hR hv he
      ·split at he
       ·rename_i as h1 ea
        obtain ⟨kF,kV⟩:=mapH_sound (fun a b c=>freezeA_sound a b c) hR hv ea
        split at he
        ·rename_i ds hds
         split at he
         ·rename_i v1 h2 hgo
          split at he
          ·rename_i d1 hd1
           split at he
           ·rename_i hun
            cases he
            have:=go_sound hC hb (by rw [e1];exact hcb) (by rw [e2];exact hrs) e3 hf kF.1.lend (resolveL_in kF.1 hds kV) hgo
            refine this.mono fun e w' hp=>?_
            obtain ⟨v,e0,ρ',k1,k2,k3⟩:=hp
            obtain ⟨ρ2,p1,p2,p3⟩:=pure_out kF.1 k1 k2 k3 hd1 hun
            exact ⟨v,e0,ρ2,p1,kF.2.trans p2,p3⟩
           ·cases he
          ·cases he
         ·cases he
        ·cases he
       ·cases he
     ·cases hcf
    ·cases hcf
   ·cases hcf
theorem mkSeq_seq (a b:DCode):∃ x y,mkSeq a b=.seq x y:=by
 unfold mkSeq
 cases hw:walkOf a b with
 | none=>exact ⟨a,b,rfl⟩
 | some r =>
  unfold walkOf at hw
  split at hw
  ·split at hw
   ·split at hw
    ·cases hw;exact ⟨_,_,rfl⟩
    ·cases hw
   ·cases hw
  ·cases hw
theorem walkOf_inv {a b r:DCode} (hw:walkOf a b=some r):∃ ds dl x it nx ok en X Y kl ops bb d1 d2 d3,a=.region ds∧ds.getLast?=some dl∧(dl.dst=some it∧dl.op=.range x∧dl.guard=none) ∧
  b=.block X (.loop (.seq (.region [d1,d2]) (.seq (.cond (.t ok) .skip (.exit X)) (.block Y (.seq (.region (d3::ops)) bb)))))∧(d1.dst=some nx∧d1.op=.next (.t it)∧d1.guard=none)∧(d2.dst=some ok∧d2.op=.extract (.t nx) 0∧d2.guard=none) ∧
  (d3.dst=some en∧d3.op=.entry (.t it)∧d3.guard=none)∧notWalk bb=true∧(it≠nx∧it≠ok)∧r=.seq (.region ds.dropLast) (.walk x it nx ok en X Y kl ops bb):=by
 unfold walkOf at hw
 split at hw
 ·split at hw
  ·rename_i hl
   split at hw
   ·rename_i hc
    obtain ⟨⟨rfl,rfl,rfl,rfl,rfl⟩,hb,hne⟩:=hc
    cases hw
    exact ⟨_,_,_,_,_,_,_,_,_,_,_,_,_,_,_,rfl,hl,⟨rfl,rfl,rfl⟩,rfl,⟨rfl,rfl,rfl⟩,⟨rfl,rfl,rfl⟩,⟨rfl,rfl,rfl⟩,hb,hne,rfl⟩
   ·cases hw
  ·cases hw
 ·cases hw
theorem comp_region_inv {code:Code} {ds:List DOper} (hc:compCode P code=some (.region ds)):∃ id ops,code=.region id ops false∧ops.toList.mapM (compOper P ops.toList .write 0)=some ds:=by
 cases code<;>unfold compCode at hc
 case region id ops draw =>
  cases draw with
  | false =>
   simp only [compRegion,Bool.false_eq_true,if_false]at hc
   split at hc
   ·rename_i h;cases hc;exact ⟨id,ops,rfl,h⟩
   ·cases hc
  | true =>
   obtain ⟨dis,bs,e,_⟩:=compRegion_fit hc
   cases e
 case seq a b =>
  split at hc
  ·obtain ⟨x,y,e⟩:=mkSeq_seq _ _
   rw [e]at hc;cases hc
  ·cases hc
 all_goals ((repeat' split at hc)<;>first|(cases hc;done)|(simp at hc;done))
theorem comp_seq_inv {code:Code} {a b:DCode} (hc:compCode P code=some (.seq a b)) (hb:notWalk b=true):∃ x y,code=.seq x y∧compCode P x=some a∧compCode P y=some b:=by
 cases code<;>unfold compCode at hc
 case seq x y =>
  split at hc
  ·rename_i da db h1 h2
   cases hw:walkOf da db with
   | none =>
    unfold mkSeq at hc
    rw [hw]at hc
    cases hc
    exact ⟨x,y,rfl,h1,h2⟩
   | some r =>
    obtain ⟨ds,dl,x0,it,nx,ok,en,X,Y,kl,ops,bb,d1,d2,d3,_,_,_,_,_,_,_,_,_,rfl⟩:=walkOf_inv hw
    unfold mkSeq at hc
    rw [hw]at hc
    cases hc
    cases hb
  ·cases hc
 case region id ops draw =>
  cases draw with
  | false =>
   simp only [compRegion,Bool.false_eq_true,if_false]at hc
   split at hc<;>cases hc
  | true =>
   obtain ⟨dis,bs,e,_⟩:=compRegion_fit hc
   cases e
 all_goals ((repeat' split at hc)<;>first|(cases hc;done)|(simp at hc;done))
theorem comp_block_inv {code:Code} {X:Nat} {b:DCode} (hc:compCode P code=some (.block X b)):∃ y,code=.block X y∧compCode P y=some b:=by
 cases code<;>unfold compCode at hc
 case block id y =>
  split at hc
  ·rename_i h;cases hc;exact ⟨y,rfl,h⟩
  ·cases hc
 case region id ops draw =>
  cases draw with
  | false =>
   simp only [compRegion,Bool.false_eq_true,if_false]at hc
   split at hc<;>cases hc
  | true =>
   obtain ⟨dis,bs,e,_⟩:=compRegion_fit hc
   cases e
 case seq a b =>
  split at hc
  ·obtain ⟨x,y,e⟩:=mkSeq_seq _ _
   rw [e]at hc;cases hc
  ·cases hc
 all_goals ((repeat' split at hc)<;>first|(cases hc;done)|(simp at hc;done))
theorem comp_loop_inv {code:Code} {b:DCode} (hc:compCode P code=some (.loop b)):∃ y,code=.loop y∧compCode P y=some b:=by
 cases code<;>unfold compCode at hc
 case loop y =>
  split at hc
  ·rename_i h;cases hc;exact ⟨y,rfl,h⟩
  ·cases hc
 case region id ops draw =>
  cases draw with
  | false =>
   simp only [compRegion,Bool.false_eq_true,if_false]at hc
   split at hc<;>cases hc
  | true =>
   obtain ⟨dis,bs,e,_⟩:=compRegion_fit hc
   cases e
 case seq a b =>
  split at hc
  ·obtain ⟨x,y,e⟩:=mkSeq_seq _ _
   rw [e]at hc;cases hc
  ·cases hc
 all_goals ((repeat' split at hc)<;>first|(cases hc;done)|(simp at hc;done))
theorem comp_cond_inv {code:Code} {c:Opd} {a b:DCode} (hc:compCode P code=some (.cond c a b)):∃ o x y,code=.cond o x y∧opd o=some c∧compCode P x=some a∧compCode P y=some b:=by
 cases code<;>unfold compCode at hc
 case cond o x y =>
  split at hc
  ·rename_i h1 h2 h3;cases hc;exact ⟨o,x,y,rfl,h1,h2,h3⟩
  ·cases hc
 case region id ops draw =>
  cases draw with
  | false =>
   simp only [compRegion,Bool.false_eq_true,if_false]at hc
   split at hc<;>cases hc
  | true =>
   obtain ⟨dis,bs,e,_⟩:=compRegion_fit hc
   cases e
 case seq a b =>
  split at hc
  ·obtain ⟨x,y,e⟩:=mkSeq_seq _ _
   rw [e]at hc;cases hc
  ·cases hc
 all_goals ((repeat' split at hc)<;>first|(cases hc;done)|(simp at hc;done))
theorem comp_skip_inv {code:Code} (hc:compCode P code=some .skip):code=.skip:=by
 cases code<;>unfold compCode at hc
 case skip=>rfl
 case region id ops draw =>
  cases draw with
  | false =>
   simp only [compRegion,Bool.false_eq_true,if_false]at hc
   split at hc<;>cases hc
  | true =>
   obtain ⟨dis,bs,e,_⟩:=compRegion_fit hc
   cases e
 case seq a b =>
  split at hc
  ·obtain ⟨x,y,e⟩:=mkSeq_seq _ _
   rw [e]at hc;cases hc
  ·cases hc
 all_goals ((repeat' split at hc)<;>first|(cases hc;done)|(simp at hc;done))
theorem comp_exit_inv {code:Code} {X:Nat} (hc:compCode P code=some (.exit X)):code=.exit X:=by
 cases code<;>unfold compCode at hc
 case exit id=>cases hc;rfl
 case region id ops draw =>
  cases draw with
  | false =>
   simp only [compRegion,Bool.false_eq_true,if_false]at hc
   split at hc<;>cases hc
  | true =>
   obtain ⟨dis,bs,e,_⟩:=compRegion_fit hc
   cases e
 case seq a b =>
  split at hc
  ·obtain ⟨x,y,e⟩:=mkSeq_seq _ _
   rw [e]at hc;cases hc
  ·cases hc
 all_goals ((repeat' split at hc)<;>first|(cases hc;done)|(simp at hc;done))
theorem mapM_snoc {α β:Type} {f:α→Option β}:∀{l:List α} {r:List β} {d:β},l.mapM f=some (r++[d])→∃ l' o,l=l'++[o]∧l'.mapM f=some r∧f o=some d:=by
 intro l
 induction l with
 | nil=>intro r d h;simp at h
 | cons x l ih =>
  intro r d h
  simp only [List.mapM_cons,Option.pure_def,Option.bind_eq_bind,Option.bind_eq_some_iff]at h
  obtain ⟨y,hy,ys,hys,h⟩:=h
  cases r with
  | nil =>
   simp only [List.nil_append,Option.some.injEq,List.cons.injEq]at h
   obtain ⟨rfl,rfl⟩:=h
   have hl:=mapM_length _ _ _ hys
   have:l=[]:=List.length_eq_zero_iff.1 (by simpa using hl.symm)
   subst this
   exact ⟨[],x,rfl,rfl,hy⟩
  | cons z r =>
   simp only [List.cons_append,Option.some.injEq,List.cons.injEq]at h
   obtain ⟨rfl,rfl⟩:=h
   obtain ⟨l',o,rfl,h1,h2⟩:=ih hys
   exact ⟨x::l',o,rfl,by simp [hy,h1],h2⟩
theorem walk_sound {call:CallF} {run:DCode→Env→Heap→Res} (hcall:CallSound P call)
  (hcode:∀code dc h c env a e env' h' (Q:Exit→Act→World→Prop),compCode P code=some dc→run dc env h=.ok e env' h'→Rel h c→EnvR c env a→(∀a' w',St c h' env' a' w'→Q (exitOf e) a' w')→code.wp P Q a c.w)
  {x y:Code} {dx dy r1:DCode} {rr:DCode} (hx:compCode P x=some dx) (hy:compCode P y=some dy) (hw:walkOf dx dy=some rr) {h:Heap} {c:Ctx} {env:Env} {a:Act} {e:Ex} {env':Env} {h':Heap} {Q:Exit→Act→World→Prop} {env1:Env} {h1:Heap}
  {ds:List DOper} {xo:Opd} {it nx ok en X Y:Nat} {kl:List Nat} {ops:List DOper} {bb:DCode} (hrr:rr=.seq (.region ds) (.walk xo it nx ok en X Y kl ops bb)) (he1:runOps call ds env h=some (env1,h1))
  (he2:walkR call run it nx ok en X Y kl ops bb env1 h1 (entriesW h1 (xo.eval env1))=.ok e env' h') (hR:Rel h c) (hE:EnvR c env a) (hQ:∀a' w',St c h' env' a' w'→Q (exitOf e) a' w'):(Code.seq x y).wp P Q a c.w:=by
 obtain ⟨ds0,dl,x0,it0,nx0,ok0,en0,X0,Y0,kl0,ops0,bb0,d1,d2,d3,rfl,hlast,hdl,rfl,hd1,hd2,hd3,hnw,hne,e0⟩:=walkOf_inv hw
 rw [hrr]at e0
 simp only [DCode.seq.injEq,DCode.region.injEq,DCode.walk.injEq]at e0
 obtain ⟨rfl,rfl,rfl,rfl,rfl,rfl,rfl,rfl,rfl,rfl,rfl⟩:=e0
 obtain ⟨idA,opsA,rfl,hmA⟩:=comp_region_inv hx
 obtain ⟨y1,rfl,hy1⟩:=comp_block_inv hy
 obtain ⟨y2,rfl,hy2⟩:=comp_loop_inv hy1
 obtain ⟨y3,y4,rfl,hy3,hy4⟩:=comp_seq_inv hy2 rfl
 obtain ⟨i2,ops2,rfl,hm2⟩:=comp_region_inv hy3
 obtain ⟨y5,y6,rfl,hy5,hy6⟩:=comp_seq_inv hy4 rfl
 obtain ⟨okO,y7,y8,rfl,kok,hy7,hy8⟩:=comp_cond_inv hy5
 rw [comp_skip_inv hy7,comp_exit_inv hy8]
 obtain ⟨y9,rfl,hy9⟩:=comp_block_inv hy6
 obtain ⟨y10,v,rfl,hy10,hv⟩:=comp_seq_inv hy9 hnw
 obtain ⟨i3,ops3,rfl,hm3⟩:=comp_region_inv hy10
 have hds0:ds0=ds0.dropLast++[dl]:=by
  have hne0:ds0≠[]:=by intro h0;subst h0;simp at hlast
  rw [List.getLast?_eq_some_getLast hne0]at hlast
  cases hlast
  exact (List.dropLast_concat_getLast hne0).symm
 rw [hds0]at hmA
 obtain ⟨lA,oR,eA,mA,cR⟩:=mapM_snoc hmA
 obtain ⟨o1,r2,e2,k1,hr2⟩:∃ o1 r2,ops2.toList=o1::r2∧compOper P ops2.toList .write 0 o1=some d1∧r2.mapM (compOper P ops2.toList .write 0)=some [d2]:=by
  generalize ops2.toList=l at hm2
  have:∀l0:List Oper,l.mapM (compOper P l0 .write 0)=some [d1,d2]→∃ o1 r2,l=o1::r2∧compOper P l0 .write 0 o1=some d1∧r2.mapM (compOper P l0 .write 0)=some [d2]:=by
   intro l0 hm
   cases l with
   | nil=>simp at hm
   | cons o r =>
    simp only [List.mapM_cons,Option.pure_def,Option.bind_eq_bind,Option.bind_eq_some_iff]at hm
    obtain ⟨y,hy,ys,hys,h⟩:=hm
    cases h
    exact ⟨o,r,rfl,hy,hys⟩
  exact this l hm2
 obtain ⟨o2,rfl,k2⟩:∃ o2,r2=[o2]∧compOper P ops2.toList .write 0 o2=some d2:=by
  obtain ⟨l',o,e,h1,h2⟩:=mapM_snoc (r:=[]) hr2
  have hl:=mapM_length _ _ _ h1
  have:l'=[]:=List.length_eq_zero_iff.1 (by simpa using hl.symm)
  subst this
  exact ⟨o,e,h2⟩
 obtain ⟨o3,l3,e3,k3,k4⟩:∃ o3 l3,ops3.toList=o3::l3∧compOper P ops3.toList .write 0 o3=some d3∧l3.mapM (compOper P ops3.toList .write 0)=some ops:=by
  generalize ops3.toList=l at hm3
  have:∀l0:List Oper,l.mapM (compOper P l0 .write 0)=some (d3::ops)→∃ o3 l3,l=o3::l3∧compOper P l0 .write 0 o3=some d3∧l3.mapM (compOper P l0 .write 0)=some ops:=by
   intro l0 hm
   cases l with
   | nil=>simp at hm
   | cons o r =>
    simp only [List.mapM_cons,Option.pure_def,Option.bind_eq_bind,Option.bind_eq_some_iff]at hm
    obtain ⟨y,hy,ys,hys,h⟩:=hm
    cases h
    exact ⟨o,r,rfl,hy,hys⟩
  exact this l hm3
 obtain ⟨g1,g2,g3,_,_⟩:=compOper_inv cR
 rw [hdl.2.1]at g1
 rw [hdl.2.2]at g2
 rw [hdl.1]at g3
 obtain ⟨tR,xR,kT,eT,hoR,huR,hxR⟩:=compOp_range g1
 refine wp_seq (wp_region_arr ?_)
 rw [eA]at mA g2 ⊢
 refine ops_sound_app hcall lA ds0.dropLast h c env a env1 h1 mA he1 hR hE fun a1 w1 hst=>?_
 obtain ⟨ρ1,hR1,hle1,hE1⟩:=hst
 generalize hcc:c.next w1 ρ1 h1=cc at hR1 hle1 hE1
 have hw1:w1=cc.w:=by rw [←hcc];rfl
 rw [hw1]
 obtain ⟨m,es,hxm,hg,hwi,hall⟩:=walkR_inv he2
 have hvx:=opd_VR hxR hE1
 rw [hxm]at hvx
 obtain ⟨mb,hvx,hρ⟩:=hvx.map_inv
 obtain ⟨es',ents,clk,hperm,hents,hent,hborn⟩:=hR1.mapo hg hρ
 have hgo:(getObj mb).run P cc.w=.ok (.map ents clk) cc.w:=by simp [getObj,Sem.run,hents]
 refine wpList_step fun K hK=>?_
 rw [if_pos (wanted_sound g2 hE1 rfl)]
 have hexR:(execOp a1.eval oR).run P cc.w=.ok (.value (.pointer (some ⟨cc.w.heap.size,0,none⟩))) {cc.w with heap:=cc.w.heap.push (.mapIter (some mb) clk #[] clk)}:=by
  simp [execOp,hoR,Instr.range,run_underlying huR,hvx,hgo]
 unfold Oper.wp
 rw [hexR]
 refine hK _ _ (wpList_nil ?_)
 have hS:=hR1.shut hg hρ
 have hmlt:=get_lt hg
 generalize hc1:({cc with E:=fun b=>cc.E b∨b=mb}:Ctx)=c1 at hS
 have hc1w:c1.w=cc.w:=by rw [←hc1]
 have hbi:∀b,c1.E b→b≠cc.w.heap.size:=fun b hb=>by have:=(hS.pend b hb).1;rw [hc1w]at this;omega
 obtain ⟨hA,hleA⟩:=hS.early (w':={cc.w with heap:=cc.w.heap.push (.mapIter (some mb) clk #[] clk)}) (by simp [hc1w]) (fun k hk=>by
  rw [hc1w]at hk ⊢
  simp only [Array.getElem?_push]
  rw [if_neg (by omega)]) (by rw [hc1w];exact .push rfl trivial rfl rfl)
 obtain ⟨hB,hleB⟩:=hA.nameE cc.w.heap.size
 have hle3:=hleA.trans hleB
 have hn1:(h1.set m .dead).n=h1.n:=rfl
 generalize hC3:(⟨{cc.w with heap:=cc.w.heap.push (.mapIter (some mb) clk #[] clk)},fun i=>if i=(h1.set m .dead).n then some (cc.w.heap.size,0) else c1.ρ i,fun b=>c1.O b∨b=c1.w.heap.size,c1.X,fun b=>c1.E b∨b=c1.w.heap.size,c1.τ⟩:Ctx)=C3 at hB hle3
 have hC3w:C3.w={cc.w with heap:=cc.w.heap.push (.mapIter (some mb) clk #[] clk)}:=by rw [←hC3]
 have hC3E:C3.E=fun b=>c1.E b∨b=cc.w.heap.size:=by rw [←hC3,←hc1w]
 have hC3nm:C3.ρ h1.n=some (cc.w.heap.size,0):=by rw [←hC3];exact if_pos rfl
 have I:WalkI c1 mb cc.w.heap.size clk h1.n (shutW h1 m) C3 #[]:=by
  refine ⟨hB,⟨hle3.rho,hle3.size,hle3.frame,hle3.own,hle3.shape,hle3.X,fun b hb he=>⟨he,(hle3.pend b hb (by rw [hC3E];exact .inl he)).2⟩,hle3.quiet,hle3.tok⟩,hC3E,by rw [←hC3],?_,hC3nm⟩
  rw [hC3w];simp
 have hE3:EnvR C3 (env1.set it (.ptr h1.n 0 0 0)) (a1.put oR.dst (.pointer (some ⟨cc.w.heap.size,0,none⟩))):=by
  have h0:EnvR C3 env1 a1:=⟨hE1.size,hE1.defers,fun i hi=>by
   have:=(hE1.val i hi).setE (fun b=>cc.E b∨b=mb)
   rw [hc1]at this
   exact this.mono hle3⟩
  have hp:VR C3 (.ptr h1.n 0 0 0) (.pointer (some ⟨cc.w.heap.size,0,none⟩)):=by
   have:=VR.ptr (sz:=0) (idx:=0) (off:=0) hC3nm
   simpa using this
  rw [←g3]
  exact h0.put hp (some it)
 rw [show ({cc.w with heap:=cc.w.heap.push (.mapIter (some mb) clk #[] clk)}:World)=C3.w from hC3w.symm]
 show (Code.block X _).wp P Q _ C3.w
 refine wp_block (wp_loop_rounds (ents.size+1) ?_)
 have hlen:es'.length=ents.size:=by simpa using hent.1
 have hmap:((List.range ents.size).map fun j=>es'.getD j (.unk,.unk))=es':=by
  apply List.ext_getElem
  ·simp [hlen]
  ·intro i h1 h2;simp at h1;simp [h2]
 have hc1E:c1.E mb:=by rw [←hc1];exact .inr rfl
 have hwi0:=hwi
 unfold walkIn at hwi
 refine rounds_sound (Fin:=fun e1 envx hx1=>e1=e∧∃ e2 env2 h2,closeW kl m es env1 h1 (.ok e1 envx hx1)=.ok e2 env2 h2∧env'=env2∧allZ eqvO h'.objs h2.objs=true) hcall (fun h c env a e env' h' Q hr hR hE hQ=>hcode v bb h c env a e env' h' Q hv hr hR hE hQ) e2 e3 k1 hd1 k2 hd2 k3 hd3 k4 kok hne hbi hc1E (ents:=ents) (by rw [hc1w];exact hents) hborn (es':=es') ?_ ?_ ents.size (List.range ents.size) (by simp) List.nodup_range (fun j hj=>List.mem_range.1 hj) (shutW h1 m) C3 _ _ #[] I hE3 (fun j hj=>by simp [hj]) ?_
 ·refine ⟨hent.1,fun i e1 m1 h3 h4=>?_⟩
  have:=hent.2 i e1 m1 h3 h4
  have q1:=this.1.setE (fun b=>cc.E b∨b=mb)
  have q2:=this.2.setE (fun b=>cc.E b∨b=mb)
  rw [hc1]at q1 q2
  exact ⟨q1,q2⟩
 ·rintro e1 envx hx1 C ax seen ⟨rfl,e2',env2,h2,hcl,hev,hz⟩ IC hEC
  obtain ⟨_,_,hh',_⟩:∃ e3 env3 h3,closeW kl m es env1 h1 (.ok e3 env3 h3)=.ok e1 env' h':=by
   cases hro:rounds call run it nx ok en X Y h1.n ops bb es (env1.set it (.ptr h1.n 0 0 0)) (shutW h1 m) with
   | fail=>rw [hro]at hwi;cases hwi
   | ok e3 env3 h3=>rw [hro]at hwi;exact ⟨e3,env3,h3,hwi⟩
  rename_i hcl'
  obtain ⟨_,_,rfl,_,_,_⟩:=closeW_inv hcl'
  have hst:=close_sound hR1 hg hρ hperm hents hborn hent hE1 (by rw [hc1];exact IC) hEC hcl hev (by rfl) (by rfl) hz
  rw [←hcc]at hst
  exact hQ _ _ (hst.trans (by rw [hcc];exact hle1))
 ·intro l hl
  rw [hmap]at hl
  have hp:=hall l (perms_mem (hl.trans hperm.symm))
  unfold walkIn at hp
  cases hro:rounds call run it nx ok en X Y h1.n ops bb l (env1.set it (.ptr h1.n 0 0 0)) (shutW h1 m) with
  | fail=>rw [hro]at hp;simp [closeW,eqvR]at hp
  | ok e3 env3 h3 =>
   rw [hro]at hp
   cases hcl:closeW kl m es env1 h1 (.ok e3 env3 h3) with
   | fail=>rw [hcl]at hp;simp [eqvR]at hp
   | ok e4 env4 h4 =>
    rw [hcl]at hp
    simp only [eqvR,Bool.and_eq_true,decide_eq_true_eq]at hp
    obtain ⟨q1,_⟩:=closeW_inv hcl
    exact ⟨e3,env3,h3,rfl,by rw [hp.1,q1],e4,env4,h4,hcl,beqL_eq _ _ hp.2.1,hp.2.2⟩
theorem code_sound_le (G:Good P D):∀n m,m≤n→CodeSound P D m∧LoopSound P D m:=by
 intro n
 induction n with
 | zero =>
  intro m hm
  rw [Nat.le_zero.1 hm]
  refine ⟨fun code dc h c env a e env' h' Q _ he=>?_,fun code dc h c env a e env' h' Q _ he=>?_⟩
  ·cases he
  ·cases he
 | succ n ih =>
  intro m hm
  rcases Nat.lt_or_ge m (n+1) with hlt|hge
  ·exact ih m (by omega)
  rw [Nat.le_antisymm hm hge]
  obtain ⟨iC,iL⟩:=ih n (Nat.le_refl _)
  have hcall:=enter_sound G iC
  have hkeep:=enter_keeps (run:=exec D n) G.keep (exec_keeps G.keep n)
  refine ⟨?_,?_⟩
  ·intro code dc h c env a e env' h' Q hcc he hR hE hQ
   unfold compCode at hcc
   split at hcc
   ·cases hcc
    simp only [exec]at he
    cases he
    exact wp_skip (hQ _ _ ⟨c.ρ,by rw [hR.same];exact ⟨hR,.refl c,hE⟩⟩)
   ·rename_i x y
    split at hcc
    ·rename_i _ _ dx dy hx hy
     cases hcc
     cases hw:walkOf dx dy with
     | some r =>
      obtain ⟨ds,dl,x0,it,nx,ok,en,X,Y,kl,ops,bb,d1,d2,d3,_,_,_,_,_,_,_,_,_,hr⟩:=walkOf_inv hw
      unfold mkSeq at he
      rw [hw,hr]at he
      simp only [Option.getD_some,exec]at he
      cases n with
      | zero=>simp only [exec]at he;cases he
      | succ k =>
       simp only [exec]at he
       split at he
       ·rename_i env1 h1 h2
        split at h2
        ·rename_i h3
         cases h2
         obtain ⟨jC,jL⟩:=ih k (Nat.le_succ _)
         exact walk_sound (r1:=dx) (enter_sound G jC) jC hx hy hw hr h3 he hR hE hQ
        ·cases h2
       ·rename_i hne
        split at he
        ·rename_i h3;exact absurd (by rw [h3]) (hne _ _)
        ·cases he
     | none =>
     unfold mkSeq at he
     rw [hw]at he
     simp only [Option.getD_none,exec]at he
     refine wp_seq ?_
     split at he
     ·rename_i env1 h1 h2
      refine iC x dx h c env a .normal env1 h1 _ hx h2 hR hE fun a' w' hst=>?_
      obtain ⟨ρ',k1,k2,k3⟩:=hst
      show y.wp P Q a' w'
      exact iC y dy h1 (c.next w' ρ' h1) env1 a' e env' h' Q hy he k1 k3 fun a2 w2 hst2=>hQ _ _ (hst2.trans k2)
     ·rename_i hne
      refine iC x dx h c env a e env' h' _ hx he hR hE fun a' w' hst=>?_
      have:=hQ a' w' hst
      cases e with
      | normal=>exact absurd he (hne env' h')
      | exit id=>exact this
      | ret=>exact this
    ·cases hcc
   ·rename_i cd x y
    split at hcc
    ·rename_i _ _ _ cd' dx dy h1 h2 h3
     cases hcc
     simp only [exec]at he
     have hv:=opd_VR h1 hE
     split at he
     ·rename_i hcv
      rw [hcv]at hv
      exact wp_cond_true hv.bool_inv (iC x dx h c env a e env' h' Q h2 he hR hE hQ)
     ·rename_i hcv
      rw [hcv]at hv
      exact wp_cond_false hv.bool_inv (iC y dy h c env a e env' h' Q h3 he hR hE hQ)
     ·cases he
    ·cases hcc
   ·rename_i id b
    split at hcc
    ·rename_i _ db hb
     cases hcc
     simp only [exec]at he
     refine wp_block ?_
     split at he
     ·rename_i id' env1 h1 h2
      split at he
      ·rename_i hid
       cases he
       exact iC b db h c env a (.exit id') _ _ _ hb h2 hR hE fun a' w' hst=>by
        show Exit.inBlock id Q (.exit id') a' w'
        simp only [Exit.inBlock,hid,if_true]
        exact hQ a' w' hst
      ·rename_i hid
       cases he
       exact iC b db h c env a (.exit id') _ _ _ hb h2 hR hE fun a' w' hst=>by
        show Exit.inBlock id Q (.exit id') a' w'
        simp only [Exit.inBlock,hid,if_false]
        exact hQ a' w' hst
     ·rename_i hne
      refine iC b db h c env a e env' h' _ hb he hR hE fun a' w' hst=>?_
      have:=hQ a' w' hst
      cases e with
      | normal=>exact this
      | exit id'=>exact absurd he (hne id' env' h')
      | ret=>exact this
    ·cases hcc
   ·rename_i b
    split at hcc
    ·rename_i _ db hb
     cases hcc
     refine wp_loop_rounds (n+1) ?_
     rw [rounds_succ]
     simp only [exec]at he
     split at he
     ·rename_i env1 h1 h2
      refine iC b db h c env a .normal env1 h1 _ hb h2 hR hE fun a' w' hst=>?_
      obtain ⟨ρ',k1,k2,k3⟩:=hst
      show Code.rounds P b Q n a' w'
      exact iL b db h1 (c.next w' ρ' h1) env1 a' e env' h' Q hb he k1 k3 fun a2 w2 hst2=>hQ _ _ (hst2.trans k2)
     ·rename_i hne
      refine iC b db h c env a e env' h' _ hb he hR hE fun a' w' hst=>?_
      have:=hQ a' w' hst
      cases e with
      | normal=>exact absurd he (hne env' h')
      | exit id=>exact this
      | ret=>exact this
    ·cases hcc
   ·cases hcc
    simp only [exec]at he
    cases he
    exact wp_exit (hQ _ _ ⟨c.ρ,by rw [hR.same];exact ⟨hR,.refl c,hE⟩⟩)
   ·cases hcc
    simp only [exec]at he
    cases he
    exact wp_ret (hQ _ _ ⟨c.ρ,by rw [hR.same];exact ⟨hR,.refl c,hE⟩⟩)
   ·rename_i id ops draw
    cases draw with
    | false =>
     simp only [compRegion,Bool.false_eq_true,if_false]at hcc
     split at hcc
     ·rename_i ds hds
      cases hcc
      simp only [exec]at he
      split at he
      ·rename_i env1 h1 hrun
       cases he
       exact wp_region_list (by
        have:=ops_sound hcall (ops:=ops.toList) (Q:=Q) ops.toList ds h c env a _ _ hds hrun hR hE hQ
        simpa using this)
      ·cases he
     ·cases hcc
    | true =>
     have hdc:∃ ds,dc=.draw ds:=by
      obtain ⟨dis,bs,e,_⟩:=compRegion_fit hcc
      exact ⟨_,e⟩
     obtain ⟨ds,rfl⟩:=hdc
     simp only [exec]at he
     split at he
     ·rename_i env1 h1 hrun
      cases he
      exact draw_sound G.mixed hcc hkeep hcall hrun hR hE hQ
     ·cases he
   ·cases hcc
  ·intro code dc h c env a e env' h' Q hcc he hR hE hQ
   rw [rounds_succ]
   simp only [exec]at he
   split at he
   ·rename_i env1 h1 h2
    refine iC code dc h c env a .normal env1 h1 _ hcc h2 hR hE fun a' w' hst=>?_
    obtain ⟨ρ',k1,k2,k3⟩:=hst
    show Code.rounds P code Q n a' w'
    exact iL code dc h1 (c.next w' ρ' h1) env1 a' e env' h' Q hcc he k1 k3 fun a2 w2 hst2=>hQ _ _ (hst2.trans k2)
   ·rename_i hne
    refine iC code dc h c env a e env' h' _ hcc he hR hE fun a' w' hst=>?_
    have:=hQ a' w' hst
    cases e with
    | normal=>exact absurd he (hne env' h')
    | exit id=>exact this
    | ret=>exact this
theorem code_sound (G:Good P D) (n:Nat):CodeSound P D n∧LoopSound P D n:=code_sound_le G n n (Nat.le_refl _)
theorem call_sound (G:Good P D) (n:Nat):CallSound P (callD D n):=enter_sound G (code_sound G n).1
end
end Go.Dm
/-
Part 28 of "Dm": a call of a function without arguments from outside; the table of the functions.
-/
namespace Go.Dm
open Go.RowKit
def emptyH:Heap:={objs:=[],n:=0,lim:=0}
def ctx0 (w:World) (τ:Nat→Value:=fun _=>undef):Ctx:=⟨w,fun _=>none,fun _=>False,fun _=>False,fun _=>False,τ⟩
theorem get_empty (id:Nat):emptyH.get id=none:=by simp [Heap.get,emptyH]
def Laid (w:World):Prop:=∀b v,globVal=some (b,v)→b<w.heap.size∧w.cell? ⟨b,0,none⟩=some v
theorem rel0 (w:World) (hg:Laid w) (τ:Nat→Value:=fun _=>undef):Rel emptyH (ctx0 w τ) :=
 ⟨rfl,Nat.le_refl _,fun id h=>absurd rfl h,fun id o h=>(by rw [get_empty]at h;cases h),fun i j oi oj b x y hi=>(by rw [get_empty]at hi;cases hi),fun b=>⟨fun h=>h.elim,fun h=>by
  rcases h with ⟨id,o,x,hg,_⟩|h
  ·rw [get_empty]at hg;cases hg
  ·exact h.elim⟩,fun b h=>h.elim,fun b h=>h.elim,fun b h=>h.elim,fun b v hv=>⟨(hg b v hv).1,fun h=>h,(hg b v hv).2⟩⟩
theorem grown_of_le {w:World} {τ:Nat→Value} {c:Ctx} (h:CtxLe (ctx0 w τ) c):Grown w c.w:=by
 refine ⟨⟨h.quiet.os,h.quiet.out,fun i hi=>?_⟩,h.quiet.froz,h.size⟩
 have:=(World.keptBut_refl w (fun _=>False)).2.2 i hi
 rw [h.frame i hi (fun h=>h)]
 exact this
def TabOk (P:Program) (tab:List (Nat×DFunc)):Prop:=∀x,x∈tab→∃ fn,P.funcs[x.1]?=some fn∧compFunc P fn x.2.mode=some x.2
theorem TabOk.nil {P:Program}:TabOk P []:=fun x hx=>by cases hx
theorem TabOk.cons {P:Program} {f:Nat} {df:DFunc} {fn:Func} {tab:List (Nat×DFunc)} (h1:P.funcs[f]?=some fn) (h2:compFunc P fn df.mode=some df) (h:TabOk P tab):TabOk P ((f,df)::tab):=fun x hx=>by
 rcases List.mem_cons.1 hx with rfl|hx
 ·exact ⟨fn,h1,h2⟩
 ·exact h x hx
def lookT:List (Nat×DFunc)→Nat→Option DFunc
 | [],_=>none
 | (k,d)::r,f=>if Nat.beq k f then some d else lookT r f
theorem lookT_mem {tab:List (Nat×DFunc)} {f:Nat} {d:DFunc} (h:lookT tab f=some d):(f,d)∈tab:=by
 induction tab with
 | nil=>cases h
 | cons x r ih =>
  obtain ⟨k,d'⟩:=x
  simp only [lookT]at h
  split at h
  ·rename_i he
   cases h
   rw [Nat.eq_of_beq_eq_true he]
   exact List.mem_cons_self ..
  ·exact List.mem_cons_of_mem _ (ih h)
def isTrue (r:Option (DV×Heap)):Bool :=
 match r with
 | some (.bool true,_)=>true
 | _=>false
theorem closed_true {P : Program} {D : DProg} (G : Good P D) {f n : Nat} {fn : Func} {body : Code} (hf : P.funcs[f]? = some fn) (hb : fn.body = some body) (hn : fn.name ≠ "runtime.NumGoroutine") (hr : isTrue (callD D n f [] emptyH) = true) (w : World) (hg : Laid w) :
  Calls P f #[] w fun e w'=>e=.returned (.bool true)∧Grown w w':=by
 unfold isTrue at hr
 split at hr
 ·rename_i h' he
  have hc:=call_sound G n f [] emptyH _ h' (ctx0 w) [] he (rel0 w hg) ⟨rfl,fun i h1=>absurd h1 (Nat.not_lt_zero _)⟩
  have hen:=callFunc_enter hf hb hn #[] w
  rcases hc with ⟨v,w',hrun,_⟩|⟨f',vals',hrun,hcalls⟩
  ·have:(callFunc f #[]).run P w=.ok (.value v) w':=hrun
   rw [hen]at this
   cases this
  ·have h2:(callFunc f #[]).run P w=.ok (.enter f' vals') w:=hrun
   rw [hen]at h2
   cases h2
   refine hcalls.mono fun e w' hp=>?_
   obtain ⟨v,e1,ρ',k1,k2,k3⟩:=hp
   exact ⟨by rw [e1,k3.bool_inv],grown_of_le k2⟩
 ·cases hr
end Go.Dm
/-
Part 30 of "Dm": what stands in the place of functions without a body; tables with hooks.
-/
namespace Go.Dm
def HookOk (P:Program) (f:Nat) (hk:Hook):Prop :=
 (∀args h d h' c vals,hk h args=some (d,h')→Rel h c→VRs c args vals→CallOk P f vals.toArray h c h' d)∧∀h args v h',h.lim≤h.n→hk h args=some (v,h')→Keeps h h'
def overlapsHook:Hook:=fun h args =>
 match args with
 | [.sl i1 s1 _ _,.sl i2 s2 _ _] =>
  match h.get i1,h.get i2 with
  | some (.arr _ z1 _ _),some (.arr _ z2 xs _)=>if i1≠i2∧s1=z1∧s2=z2∧xs.length≠0 then some (.bool false,h) else none
  | _,_=>none
 | _=>none
theorem overlaps_ok {P : Program} {f : Nat} {fn : Func} {tS tR e : TypeId} (hf : P.funcs[f]? = some fn) (hname : (fn.name == "runtime.NumGoroutine") = false) (hb : fn.body.isNone = true) (hn : Extern.findNext fn = none)
  (he:Extern.find fn=some (Extern.SlicesOverlaps.overlaps #[tS,tS] #[tR])) (ht:P.underlying tS=some (.slice e)) (hi:(P.info? e).isSome=true):HookOk P f overlapsHook:=by
 obtain ⟨i,hi⟩:=Option.isSome_iff_exists.1 hi
 refine ⟨fun args h d h' c vals hs hR hv=>?_,fun h args v h' _ hs=>?_⟩
 ·unfold overlapsHook at hs
  split at hs
  ·rename_i i1 s1 o1 l1 i2 s2 o2 l2
   split at hs
   ·rename_i e1 z1 x1 c1 e2 z2 x2 c2 g1 g2
    split at hs
    ·rename_i hcond
     obtain ⟨hne,hs1,hs2,hx⟩:=hcond
     cases hs
     have hl:=hv.1
     obtain ⟨v1,v2,rfl⟩:∃ v1 v2,vals=[v1,v2]:=by
      cases vals with
      | nil=>simp at hl
      | cons a r=>cases r with
       | nil=>simp at hl
       | cons b r=>cases r with
        | nil=>exact ⟨a,b,rfl⟩
        | cons c r=>simp at hl
     have w1:VR c (.sl i1 s1 o1 l1) v1:=hv.2 0 (by simp) (by simp)
     have w2:VR c (.sl i2 s2 o2 l2) v2:=hv.2 1 (by simp) (by simp)
     obtain ⟨b1,base1,cap1,co1,n1,ty1,e1',r1,_⟩:=w1.sl_inv
     obtain ⟨b2,base2,cap2,co2,n2,ty2,e2',r2,_⟩:=w2.sl_inv
     obtain ⟨cur1,m1,p1,p2,p3,p4,p5,p6⟩:=hR.arr g1 r1
     obtain ⟨cur2,m2,q1,q2,q3,q4,q5,q6⟩:=hR.arr g2 r2
     have hbne:b1≠b2:=fun eb=>hne (hR.inj i1 i2 _ _ b1 base1 base2 g1 g2 rfl rfl r1 (eb ▸ r2))
     have hfr:∀a:Addr,a.block=b1→c.w.frozen? a=false:=fun a ha=>calm_frozen (ob:=.cells cur1 e1 (0,0)) (by rw [ha];exact p1) rfl
     refine .inl ⟨.bool false,c.w,?_,Post.pure hR (.bool false)⟩
     rw [run_callFunc_extern hf hname hb hn he]
     have hrun:=Lib.run_overlaps_apart (P:=P) c.w tS tR e ht i.size (fun w=>by simp [sizeOf,typeInfo,hi]) ⟨b1,co1,none⟩ ⟨b2,co2,none⟩ l1 cap1 l2 cap2 hbne e1 e2 cur1.size cur2.size (shape_of_heap p1) (shape_of_heap q1)
      (by
       have:0<m2*z2:=Nat.mul_pos (by omega) q2
       omega) (hfr _ rfl) (hfr _ rfl)
     rw [e1',e2',hrun]
     rfl
    ·cases hs
   ·cases hs
  ·cases hs
 ·unfold overlapsHook at hs
  split at hs
  ·split at hs
   ·split at hs
    ·cases hs;exact .refl _
    ·cases hs
   ·cases hs
  ·cases hs
def HooksOk (P:Program) (hooks:List (Nat×Hook)):Prop:=∀x,x∈hooks→HookOk P x.1 x.2
theorem HooksOk.nil {P:Program}:HooksOk P []:=fun x hx=>by cases hx
theorem HooksOk.cons {P:Program} {f:Nat} {hk:Hook} {hooks:List (Nat×Hook)} (h1:HookOk P f hk) (h:HooksOk P hooks):HooksOk P ((f,hk)::hooks):=fun x hx=>by
 rcases List.mem_cons.1 hx with rfl|hx
 ·exact h1
 ·exact h x hx
def lookH:List (Nat×Hook)→Nat→Option Hook
 | [],_=>none
 | (k,d)::r,f=>if Nat.beq k f then some d else lookH r f
theorem lookH_mem {hooks:List (Nat×Hook)} {f:Nat} {d:Hook} (h:lookH hooks f=some d):(f,d)∈hooks:=by
 induction hooks with
 | nil=>cases h
 | cons x r ih =>
  obtain ⟨k,d'⟩:=x
  simp only [lookH]at h
  split at h
  ·rename_i he
   cases h
   rw [Nat.eq_of_beq_eq_true he]
   exact List.mem_cons_self ..
  ·exact List.mem_cons_of_mem _ (ih h)
def hookedD (tab:List (Nat×DFunc)) (hooks:List (Nat×Hook)):DProg:={fn:=lookT tab,hook:=lookH hooks}
theorem hookedD_good {P:Program} {tab:List (Nat×DFunc)} {hooks:List (Nat×Hook)} (hm:P.follows .mixedOrders=true) (ht:TabOk P tab) (hh:HooksOk P hooks):Good P (hookedD tab hooks) where
 mixed:=hm
 comp:=fun f df h=>ht (f,df) (lookT_mem h)
 hooks:=fun f hk h=>(hh (f,hk) (lookH_mem h)).1
 keep:=fun f hk h=>(hh (f,hk) (lookH_mem h)).2
end Go.Dm
/-
Part 36 of "Dm": what stands in the place of the comparing of two texts (a function without a body).
-/
namespace Go.Dm
def compareHook:Hook:=fun h args =>
 match args with
 | [.str a,.str b]=>some (.int .i64 (Go.Lib.compareBytes a b),h)
 | _=>none
theorem compare_ok {P : Program} {f : Nat} {fn : Func} (hf : P.funcs[f]? = some fn) (hname : (fn.name == "runtime.NumGoroutine") = false) (hb : fn.body.isNone = true) (hn : Extern.findNext fn = none)
  (he:Extern.find fn=some Extern.BytealgCompare.compare):HookOk P f compareHook:=by
 refine ⟨fun args h d h' c vals hs hR hv=>?_,fun h args v h' _ hs=>?_⟩
 ·unfold compareHook at hs
  split at hs
  ·rename_i a b
   cases hs
   have hl:=hv.1
   obtain ⟨v1,v2,rfl⟩:∃ v1 v2,vals=[v1,v2]:=by
    cases vals with
    | nil=>simp at hl
    | cons a r=>cases r with
     | nil=>simp at hl
     | cons b r=>cases r with
      | nil=>exact ⟨a,b,rfl⟩
      | cons c r=>simp at hl
   have w1:VR c (.str a) v1:=hv.2 0 (by simp) (by simp)
   have w2:VR c (.str b) v2:=hv.2 1 (by simp) (by simp)
   have e1:=w1.str_inv
   have e2:=w2.str_inv
   subst e1
   subst e2
   refine .inl ⟨.int .i64 (Go.Lib.compareBytes a b),c.w,?_,Post.pure hR (.int .i64 _)⟩
   rw [run_callFunc_extern hf hname hb hn he]
   have hrun:=Lib.run_compareString (P:=P) ⟨a.toArray⟩ ⟨b.toArray⟩ c.w
   simp only at hrun
   rw [hrun]
   rfl
  ·cases hs
 ·unfold compareHook at hs
  split at hs
  ·cases hs;exact .refl _
  ·cases hs
end Go.Dm
/-
Part 32 of "Dm": what stands in the place of slices.Clone: whether a slice without elements is nil is not asked.
-/
namespace Go.Dm
def cloneHook (ety sz bytes:Nat):Hook:=fun h args =>
 match args with
 | [v]=>match elems h sz v with
  | some ys =>
   if ys.isEmpty then some (.nsl,h.push .dead)
   else if ys.length*bytes≤140737488355328∧ys.length≤9223372036854775807 then some (.sl (h.n+1) sz 0 ys.length,(h.push (.arr ety sz [] (some 0))).push (.arr ety sz ys none))
   else none
  | none=>none
 | _=>none
def noneD:DProg:={fn:=fun _=>none,hook:=fun _=>none}
theorem noneD_good {P:Program} (hm:P.follows .mixedOrders=true):Good P noneD where
 mixed:=hm
 comp:=fun f df h=>by cases h
 hooks:=fun f hk h=>by cases h
 keep:=fun f hk h=>by cases h
theorem elems_push {h:Heap} {o:DO} {sz:Nat} {v:DV} {ys:List DV} (he:elems h sz v=some ys):elems (h.push o) sz v=some ys:=by
 unfold elems at he ⊢
 split at he
 ·exact he
 ·exact he
 ·split at he
  ·rename_i hg
   rw [get_push_old (get_lt hg),hg]
   exact he
  ·cases he
 ·cases he
theorem Rel.pushDead {h:Heap} {c:Ctx} (hR:Rel h c):∃ ρ',Rel (h.push .dead) (c.next c.w ρ' (h.push .dead))∧CtxLe c (c.next c.w ρ' (h.push .dead)):=by
 obtain ⟨k1,k2⟩:=hR.push .dead c.w c.w.heap.size 0 (Nat.le_refl _) (Nat.le_refl _) (fun _ _=>rfl) (.refl _) (fun _=>trivial)
 exact ⟨_,k1,k2⟩
theorem push_dead {h:Heap} {o:DO}:(h.push o).set h.n .dead=h.push .dead:=by
 simp [Heap.push,Heap.set]
theorem run_eql_nilN {P:Program} {t e:TypeId} (hu:P.underlying t=some (.slice e)) (ad:Option Addr) (n cap:Nat) (k:Nat) (w:World) :
  (Op.equalIn (k+1) t (.slice ad n cap) (.slice none 0 0)).run P w=.ok ad.isNone w:=by
 cases ad<;>simp [Op.equalIn,run_underlying hu]
theorem run_eql_nil {P:Program} {t e:TypeId} (hu:P.underlying t=some (.slice e)) (ad:Option Addr) (n cap:Nat) (w:World) :
  (Op.equal t (.slice ad n cap) (.slice none 0 0)).run P w=.ok ad.isNone w:=run_eql_nilN hu ad n cap 9999 w
structure CloneText (P:Program) (fn:Func) (ety sz bytes:Nat) (z:DV) where
 (r0 r1 r2 r3:Nat) (os0 os2 os3:Array Oper) (o2 o3:Oper) (t u:TypeId) (e:TypeId)
 body:fn.body=some (.seq (.region r0 os0 false) (.seq (.seq (.region r1 #[o2,o3] false) (.cond (.tmp 4) (.seq (.region r2 os2 false) .ret) .skip)) (.seq (.region r3 os3 false) .ret)))
 hA:compCode P (.region r0 os0 false)=some (.region [⟨some 2,.move (.c .nsl),none,.write,0,false⟩])
 h2:compOper P [o2,o3] .write 0 o2=some ⟨some 3,.move (.t 0),none,.write,0,false⟩
 h3:o3.op=.binOp .eql t (.tmp 3) (.const (.slice none 0 0)) u
 h3d:o3.dst=some 4
 h3g:o3.guard.isNone=true
 hu:P.underlying t=some (.slice e)
 hC:compCode P (.seq (.region r2 os2 false) .ret)=some (.seq (.region [⟨some 2,.move (.c .nsl),none,.write,0,false⟩]) .ret)
 hD:compCode P (.seq (.region r3 os3 false) .ret)=some (.seq (.region [⟨some 5,.buildSlice ety sz z 0 [],none,.write,0,false⟩,⟨some 6,.move (.t 0),none,.write,0,false⟩,⟨some 7,.append ety sz bytes (.t 5) (.t 6),none,.write,0,false⟩,⟨some 2,.move (.t 7),none,.write,0,false⟩]) .ret)
 nt:fn.ntmps=8
 rs:fn.results=#[.tmp 2]
theorem clone_ok {P : Program} {f : Nat} {fn : Func} {ety sz bytes : Nat} {z : DV} (hm : P.follows .mixedOrders = true) (hf : P.funcs[f]? = some fn) (hname : (fn.name == "runtime.NumGoroutine") = false) (T : CloneText P fn ety sz bytes z) :
  HookOk P f (cloneHook ety sz bytes):=by
 refine ⟨fun args h d h' c vals hs hR hv=>?_,fun h args v h' hl hs=>?_⟩
 ·unfold cloneHook at hs
  split at hs
  ·rename_i x
   split at hs
   ·rename_i ys hys
    obtain ⟨v,rfl⟩:∃ v,vals=[v]:=by
     have:=hv.1
     cases vals with
     | nil=>simp at this
     | cons a r=>cases r with
      | nil=>exact ⟨a,rfl⟩
      | cons b r=>simp at this
    have hvx:VR c x v:=hv.2 0 (by simp) (by simp)
    obtain ⟨ad,cap,news,e1,e2,e3,e4,e5⟩:=elems_sound hR hys hvx
    have hcs:=(code_sound (noneD_good hm) 3).1
    have hname' : fn.name ≠ "runtime.NumGoroutine" := by simpa using hname
    refine .inr ⟨f,#[v],callFunc_enter hf T.body hname' _ _,?_⟩
    refine calls_of_wp hf T.body ?_
    have hE0:EnvR c [x,undefD,undefD,undefD,undefD,undefD,undefD,undefD] {tmps:=#[v]++Array.replicate (fn.ntmps-1) Go.undef,defers:=[]}:=by
     have:=frame_env hv 8
     rw [T.nt]
     exact this
    have hend:∀(env':Env) (h1:Heap) (a':Act) (w':World),St c h1 env' a' w'→∀d1,env'[2]?=some d1→(∀ρ' u,Rel h1 (c.next w' ρ' h1)→CtxLe c (c.next w' ρ' h1)→VR (c.next w' ρ' h1) d1 u→Post h c h' w' d u) →
      (a'.defers=[]∧∃ u,(results fn a'.tmps).run P w'=.ok u w'∧CallPost h c h' d (.returned u) w'):=by
     intro env' h1 a' w' hst d1 hd1 hpost
     obtain ⟨ρ',k1,k2,k3⟩:=hst
     obtain ⟨hlt,hd1'⟩:=List.getElem?_eq_some_iff.1 hd1
     have hvr:=k3.val 2 hlt
     rw [hd1']at hvr
     refine ⟨k3.defers,a'.tmps.getD 2 Go.undef,?_,_,rfl,hpost ρ' _ k1 k2 hvr⟩
     rw [results_eq,T.rs]
     simp [resSem]
    refine wp_seq ?_
    refine hcs _ _ h c _ _ .normal ([x,undefD,.nsl,undefD,undefD,undefD,undefD,undefD]) h _ T.hA rfl hR hE0 fun a1 w1 hst1=>?_
    obtain ⟨ρ1,k1,k2,k3⟩:=hst1
    show Code.wp P _ _ a1 w1
    refine wp_seq ?_
    refine wp_seq ?_
    refine wp_region_list ?_
    refine wpList_step fun K hK=>?_
    obtain ⟨c1,c2,c3,_,_⟩:=compOper_inv T.h2
    have ks1:Rel h (c.next w1 ρ1 h):=k1
    rw [if_pos (by
     have:=wanted_sound (ops:=[T.o2,T.o3]) (c:=c.next w1 ρ1 h) (b:=true) c2 k3 rfl
     exact this)]
    refine one_sound (P:=P) (call:=fun _ _ _=>none) (fun f args h d h' c vals hc=>by cases hc) c1 ks1 k3 (r:=x) (h':=h) (by rfl) K _ fun u2 w2 hp2=>?_
    obtain ⟨ρ2,q1,q2,q3⟩:=hp2
    rw [next_next]at q1 q2 q3
    refine hK _ _ ?_
    have c3':T.o2.dst=some 3:=c3.symm
    have hE2:EnvR (c.next w2 ρ2 h) [x,undefD,.nsl,x,undefD,undefD,undefD,undefD] (a1.put T.o2.dst u2):=by
     rw [c3']
     exact (k3.mono q2).put q3 (some 3)
    refine wpList_step fun K2 hK2=>?_
    rw [if_pos (by
     have:=T.h3g
     have:T.o3.guard=none:=by simpa using this
     simp [Region.wanted,this])]
    have hx3:(a1.put T.o2.dst u2).eval (.tmp 3)=u2:=by
     have hsz:3<a1.tmps.size:=by rw [k3.size];simp
     rw [c3']
     simp [Act.eval,Act.put,hsz]
    obtain ⟨ad2,cap2,news2,f1,f2,f3,f4,f5⟩:=elems_sound q1 hys q3
    have hex:(execOp (a1.put T.o2.dst u2).eval T.o3).run P w2=.ok (.value (.bool ad2.isNone)) w2:=by
     have hc4:(a1.put T.o2.dst u2).eval (.const (.slice none 0 0))=.slice none 0 0:=rfl
     have hg:(eqGuard .eql T.t (.tmp 3) (.const (.slice none 0 0)) (.slice ad2 ys.length cap2) (.slice none 0 0)).run P w2=.ok () w2:=by
      unfold eqGuard;simp
     have hb:(binOp .eql T.t (.slice ad2 ys.length cap2) (.slice none 0 0)).run P w2=.ok (.bool ad2.isNone) w2:=by
      simp [binOp,run_eql_nil T.hu]
     simp [execOp,T.h3,hx3.trans f1,hc4,hg,hb]
    have ho3:OpOk P T.o3 (a1.put T.o2.dst u2) h (c.next w2 ρ2 h) h (.bool ad2.isNone):=by
     intro K Q hK
     unfold Oper.wp
     rw [show (c.next w2 ρ2 h).w=w2 from rfl,hex]
     exact hK _ w2 (Post.pure q1 (.bool _))
    refine ho3 K2 _ fun u3 w3 hp3=>?_
    obtain ⟨ρ3,p1,p2,p3⟩:=hp3
    rw [next_next]at p1 p2 p3
    refine hK2 _ _ ?_
    have hE3:EnvR (c.next w3 ρ3 h) [x,undefD,.nsl,x,.bool ad2.isNone,undefD,undefD,undefD] ((a1.put T.o2.dst u2).put T.o3.dst u3):=by
     rw [T.h3d]
     exact (hE2.mono p2).put p3 (some 4)
    have hle3:CtxLe c (c.next w3 ρ3 h):=(k2.trans q2).trans p2
    have ht4:((a1.put T.o2.dst u2).put T.o3.dst u3).eval (.tmp 4)=.bool ad2.isNone:=by
     have:=hE3.val 4 (by simp)
     have:=this.bool_inv
     simpa [Act.eval] using this
    refine wpList_nil ?_
    show Code.wp P _ _ _ w3
    cases had:ad2 with
    | none =>
     rw [had]at ht4
     refine wp_cond_true ht4 ?_
     refine hcs _ _ h (c.next w3 ρ3 h) _ _ .ret ([x,undefD,.nsl,x,.bool ad2.isNone,undefD,undefD,undefD]) h _ T.hC (by rfl) p1 hE3 fun a4 w4 hst4=>?_
     have hst4':St c h [x,undefD,.nsl,x,.bool ad2.isNone,undefD,undefD,undefD] a4 w4:=hst4.trans hle3
     have hy:ys=[]:=f4 had
     rw [if_pos (by rw [hy];rfl)]at hs
     cases hs
     refine hend _ h a4 w4 hst4' .nsl rfl fun ρ' u g1 g2 g3=>?_
     obtain ⟨ρ'',m1,m2⟩:=g1.pushDead
     exact ⟨ρ'',m1,g2.trans m2,g3.mono m2⟩
    | some adr =>
     rw [had]at ht4
     refine wp_cond_false ht4 ?_
     refine wp_skip ?_
     show Code.wp P _ _ _ w3
     have hel:=elems_push (o:=.arr ety sz [] (some 0)) hys
     by_cases hy:ys.isEmpty=true
     ·rw [if_pos hy]at hs
      cases hs
      have hyn:ys=[]:=by simpa using hy
      refine hcs _ _ h (c.next w3 ρ3 h) _ _ .ret ([x,undefD,.sl h.n sz 0 0,x,.bool ad2.isNone,.sl h.n sz 0 0,x,.sl h.n sz 0 0]) (h.push (.arr ety sz [] (some 0))) _ T.hD
       (by simp [exec,runOps,wantedD,oneOp,stepOp,Opd.eval,Dm.put,fillElems,hel,appendD,hyn]) p1 hE3 fun a4 w4 hst4=>?_
      have hst4':=hst4.trans hle3
      refine hend _ _ a4 w4 hst4' (.sl h.n sz 0 0) rfl fun ρ' u g1 g2 g3=>?_
      obtain ⟨b,base,cap',coff,nn,ety',rfl,hρ,hshape,hmm,hlc,hco⟩:=g3.sl_inv
      have hgn:(h.push (.arr ety sz [] (some 0))).get h.n=some (.arr ety sz [] (some 0)):=get_push_new
      obtain ⟨cur,m,g4,g5,g6,g7,g8,g9⟩:=g1.arr hgn hρ
      rw [shape_of_heap g4]at hshape
      cases hshape
      have hm0:m=0:=by have:=(g8 0 rfl).1;omega
      have hcap:cap'=0:=by
       have:cap'*sz=0:=by rw [hm0]at g6;omega
       rcases Nat.mul_eq_zero.1 this with e|e
       ·exact e
       ·omega
      subst hcap
      obtain ⟨m1,m2⟩:=g1.kill hgn
      rw [push_dead]at m1 m2
      exact ⟨ρ',m1,g2.trans m2,.nsl _⟩
     ·rw [if_neg hy]at hs
      split at hs
      ·rename_i hb
       cases hs
       have hyp:¬ys.length=0:=fun e=>hy (by simpa using List.eq_nil_of_length_eq_zero e)
       have hyf:ys.isEmpty=false:=by simpa using hy
       have hgn:(h.push (.arr ety sz [] (some 0))).get h.n=some (.arr ety sz [] (some 0)):=get_push_new
       refine hcs _ _ h (c.next w3 ρ3 h) _ _ .ret ([x,undefD,.sl (h.n+1) sz 0 ys.length,x,.bool ad2.isNone,.sl h.n sz 0 0,x,.sl (h.n+1) sz 0 ys.length]) ((h.push (.arr ety sz [] (some 0))).push (.arr ety sz ys none)) _ T.hD
        (by
         have hap:appendD (h.push (.arr ety sz [] (some 0))) ety sz bytes (.sl h.n sz 0 0) ys=some (.sl (h.n+1) sz 0 ys.length,(h.push (.arr ety sz [] (some 0))).push (.arr ety sz ys none)):=by
          simp only [appendD,hyf,Bool.false_eq_true,if_false,hgn]
          rw [if_pos (by simpa using hb),if_neg (show ¬0+(0+ys.length)≤([]:List DV).length from fun hle=>hyp (by have:([]:List DV).length=0:=rfl;omega))]
          simp [n_push]
         simp [exec,runOps,wantedD,oneOp,stepOp,Opd.eval,Dm.put,fillElems,hel,hap]) p1 hE3 fun a4 w4 hst4=>?_
       have hst4':=hst4.trans hle3
       refine hend _ _ a4 w4 hst4' (.sl (h.n+1) sz 0 ys.length) rfl fun ρ' u g1 g2 g3=>?_
       exact ⟨ρ',g1,g2,g3⟩
      ·cases hs
   ·cases hs
  ·cases hs
 ·unfold cloneHook at hs
  split at hs
  ·split at hs
   ·split at hs
    ·cases hs;exact .push hl _
    ·split at hs
     ·cases hs;exact (Keeps.push hl _).trans (.push (Nat.le_succ_of_le hl) _)
     ·cases hs
   ·cases hs
  ·cases hs
end Go.Dm
/-
Part 33 of "Dm": what stands in the place of errors.As, at the two targets that occur: an error number, a fault.
-/
namespace Go.Dm
open Go.RowKit
def shift2:DV→Option DV
 | .ptr id sz idx off=>some (.ptr id sz idx (off+2))
 | .iptr l cs off=>some (.iptr l cs (off+2))
 | _=>none
def findNum (tE tF:TypeId) (h:Heap):Nat→DV→Option (Option DV)
 | 0,_=>none
 | n+1,d=>match d with
  | .iface t x =>
   if t=tE then (match x with|.int .i64 k=>some (some (.int .i64 k))|_=>none)
   else if t=tF then
    match shift2 x with
    | some y=>match loadP h none y with
     | some .nili=>some none
     | some d'=>findNum tE tF h n d'
     | none=>none
    | none=>none
   else none
  | _=>none
def asHook (tE tF tPE tPF:TypeId):Hook:=fun h args =>
 match args with
 | [.nili,_]=>some (.bool false,h)
 | [.iface t x,.iface t' (.ptr id sz idx off)] =>
  if t'=tPE then
   match findNum tE tF h 50 (.iface t x) with
   | some (some k)=>match storeP h 1 (.ptr id sz idx off) k with|some h'=>some (.bool true,h')|none=>none
   | some none=>if (storeP h 1 (.ptr id sz idx off) (.int .i64 0)).isSome then some (.bool false,h) else none
   | none=>none
  else if t'=tPF then
   if t=tF then
    match shift2 x with
    | some _=>match storeP h 1 (.ptr id sz idx off) x with|some h'=>some (.bool true,h')|none=>none
    | none=>none
   else if t=tE then (match x with|.int .i64 _=>some (.bool false,h)|_=>none)
   else none
  else none
 | _=>none
inductive ErrChain (tE tF:TypeId) (w:World):Value→Option Int→Nat→Prop
 | hit (n:Int):ErrChain tE tF w (.iface tE (.int .i64 n)) (some n) 0
 | step (b o:Nat) (v:Value) (r:Option Int) (n:Nat):w.cell? ⟨b,o+2,none⟩=some v→ErrChain tE tF w v r n→ErrChain tE tF w (.iface tF (.pointer (some ⟨b,o,none⟩))) r (n+1)
 | stop (b o:Nat):w.cell? ⟨b,o+2,none⟩=some .nilIface→ErrChain tE tF w (.iface tF (.pointer (some ⟨b,o,none⟩))) none 0
structure AsText (P:Program) (f:Nat) (fn:Func) (tE tF tPE tPF:TypeId):Prop where
 hf:P.funcs[f]?=some fn
 hb:fn.body.isSome=true
 hn : (fn.name == "runtime.NumGoroutine") = false
 nil:∀(t:Value) (w:World),Calls P f #[.nilIface,t] w fun e w'=>e=.returned (.bool false)∧w'=w
 num:∀(v:Value) (r:Option Int) (n:Nat) (p:Addr) (old:Value) (w:World),Laid w→ErrChain tE tF w v r n→w.cell? p=some old→w.frozen? p=false →
  Calls P f #[v,.iface tPE (.pointer (some p))] w fun e w'=>e=.returned (.bool r.isSome)∧∃ w1,(Below w.heap.size w w1∧∀a,w1.frozen? a=w.frozen? a)∧w'=match r with|some n=>w1.setCell p (.int .i64 n)|none=>w1
 hit:∀(q p:Addr) (old:Value) (w:World),Laid w→w.cell? p=some old→w.frozen? p=false →
  Calls P f #[.iface tF (.pointer (some q)),.iface tPF (.pointer (some p))] w fun e w'=>e=.returned (.bool true)∧∃ w1,(Below w.heap.size w w1∧∀a,w1.frozen? a=w.frozen? a)∧w'=w1.setCell p (.pointer (some q))
 miss:∀(n:Int) (p:Addr) (w:World),Laid w →
  Calls P f #[.iface tE (.int .i64 n),.iface tPF (.pointer (some p))] w fun e w'=>e=.returned (.bool false)∧Below w.heap.size w w'∧∀a,w'.frozen? a=w.frozen? a
theorem Rel.laid {h:Heap} {c:Ctx} (hR:Rel h c):Laid c.w:=fun b v hv=>⟨(hR.glob b v hv).1,(hR.glob b v hv).2.2⟩
theorem Rel.grow {h:Heap} {c:Ctx} (hR:Rel h c) {w1:World} (hb:Below c.w.heap.size c.w w1) (hf:∀a,w1.frozen? a=c.w.frozen? a):Rel h (c.next w1 c.ρ h)∧CtxLe c (c.next w1 c.ρ h):=by
 have hO:∀b,(ownB h c.ρ b∨c.E b)↔c.O b:=fun b=>(hR.own b).symm
 have hsame:∀b,b<c.w.heap.size→w1.heap[b]?=c.w.heap[b]?:=hb.block
 have hle3:CtxLe c (c.next w1 c.ρ h) :=
  ⟨fun _ _ hp=>hp,hb.size,fun b hbl _=>hsame b hbl,fun b hbl=>.inl ((hO b).1 hbl),fun b e n hs=>by
   have:=shape_lt hs
   simp only [World.shape?,Ctx.next]at hs ⊢
   rw [hsame b this];exact hs,fun _ hx=>hx,fun b hbl hE=>⟨hE,hsame b hbl⟩,⟨hb.os,hb.output,hf⟩,rfl⟩
 exact ⟨⟨hR.len,hR.lim,hR.dom,fun id o hg=>(hR.obj id o hg).mono hle3 (fun ha b x hr=>hsame b (hR.block_lt hg ha hr)),hR.inj,fun _=>Iff.rfl,fun b hbl=>hR.notX b ((hO b).1 hbl),fun b hbl=>Nat.lt_of_lt_of_le (hR.old b hbl) hb.size,
  fun b hbl=>⟨Nat.lt_of_lt_of_le (hR.pend b hbl).1 hb.size,(hR.pend b hbl).2⟩,hR.glob.mono hle3⟩,hle3⟩
theorem shift2_sound {c:Ctx} {x y:DV} {v:Value} (hs:shift2 x=some y) (hv:VR c x v):∃ b o,v=.pointer (some ⟨b,o,none⟩)∧VR c y (.pointer (some ⟨b,o+2,none⟩)):=by
 unfold shift2 at hs
 split at hs
 ·cases hs
  obtain ⟨b,base,rfl,hρ⟩:=hv.ptr_inv
  exact ⟨b,_,rfl,.ptr hρ⟩
 ·cases hs
  obtain ⟨b,o,vals,rfl,hb,hO,hX,hc,hvv⟩:=hv.iptr_inv
  exact ⟨b,_,rfl,.iptr vals hb hO hX hc hvv⟩
 ·cases hs
theorem loadP_one {h:Heap} {c:Ctx} (hR:Rel h c) {y d:DV} {b o:Nat} (hy:VR c y (.pointer (some ⟨b,o,none⟩))) (hl:loadP h none y=some d):∃ u,c.w.cell? ⟨b,o,none⟩=some u∧VR c d u:=by
 obtain ⟨b',o',off,cs,e,hp,hc⟩:=loadP_view hR hy hl
 cases e
 simp only [pickCells]at hp
 obtain ⟨hj,rfl⟩:=List.getElem?_eq_some_iff.1 hp
 obtain ⟨u,h1,_,h3⟩:=hc off hj
 exact ⟨u,h1,h3⟩
theorem findNum_sound {tE tF:TypeId} {h:Heap} {c:Ctx} (hR:Rel h c):∀(n:Nat) {d:DV} {v:Value} {r:Option DV},VR c d v→findNum tE tF h n d=some r →
  ∃ (q:Option Int) (k:Nat),ErrChain tE tF c.w v q k∧r=q.map (.int .i64 ·):=by
 intro n
 induction n with
 | zero=>intro d v r _ hf;cases hf
 | succ n ih =>
  intro d v r hv hf
  simp only [findNum]at hf
  split at hf
  ·rename_i t x
   cases hv with
   | iface hv =>
    split at hf
    ·rename_i ht
     subst ht
     split at hf
     ·cases hf
      rw [hv.int_inv]
      exact ⟨some _,0,.hit _,rfl⟩
     ·cases hf
    ·split at hf
     ·rename_i ht
      subst ht
      split at hf
      ·rename_i y hy
       obtain ⟨b,o,rfl,hvy⟩:=shift2_sound hy hv
       split at hf
       ·rename_i hl
        cases hf
        obtain ⟨u,h1,h2⟩:=loadP_one hR hvy hl
        cases h2
        exact ⟨none,0,.stop b o h1,rfl⟩
       ·rename_i d' hl
        obtain ⟨u,h1,h2⟩:=loadP_one hR hvy hl
        obtain ⟨q,k,k1,k2⟩:=ih h2 hf
        exact ⟨q,k+1,.step b o u q k h1 k1,k2⟩
       ·cases hf
      ·cases hf
     ·cases hf
  ·cases hf
theorem storeP_id {h h':Heap} {id sz idx off n:Nat} {x:DV} (hs:storeP h n (.ptr id sz idx off) x=some h'):∃ ety xs cap e,h.get id=some (.arr ety sz xs cap)∧h.lim≤id∧storable n x=true∧off+n≤sz∧xs[idx]?=some e∧(ecells sz e).length=sz∧h'=h.set id (.arr ety sz (xs.set idx (turn sz off n e x)) cap):=by
 unfold storeP at hs
 simp only at hs
 split at hs
 ·rename_i ety sz' xs cap hg
  split at hs
  ·rename_i hc
   obtain ⟨h1,h2,h3,h4⟩:=hc
   subst h1
   split at hs
   ·rename_i e he
    split at hs
    ·rename_i hl
     cases hs
     exact ⟨ety,xs,cap,e,hg,h2,h3,h4,he,hl,rfl⟩
    ·cases hs
   ·cases hs
  ·cases hs
 ·cases hs
theorem spl_one {cur:Array Value} {p:Nat} {u:Value} (hp:p<cur.size):spl cur p [u]=cur.setIfInBounds p u:=by
 have hle:p+[u].length≤cur.size:=by simp only [List.length_singleton];omega
 apply Array.ext_getElem?
 intro q
 rw [spl_get hle,Array.getElem?_setIfInBounds]
 by_cases hq:q<p
 ·rw [if_pos hq,if_neg (by omega)]
 ·rw [if_neg hq]
  by_cases he:q=p
  ·subst he
   rw [if_pos (by simp),if_pos rfl,if_pos hp]
   simp
  ·rw [if_neg (by simp;omega),if_neg (by omega)]
theorem store_setCell {h h':Heap} {c:Ctx} (hR:Rel h c) {id sz idx off:Nat} {x:DV} {p:Addr} {u:Value} (vx:VR c (.ptr id sz idx off) (.pointer (some p))) (hs:storeP h 1 (.ptr id sz idx off) x=some h')
  (vy:VR c x u) (hone:u.cells=#[u]):(∃ old,c.w.cell? p=some old)∧c.w.frozen? p=false∧∃ ρ',Rel h' (c.next (c.w.setCell p u) ρ' h')∧CtxLe c (c.next (c.w.setCell p u) ρ' h'):=by
 obtain ⟨ety,xs,cap,e,hg,hlim,hstor,hoff,he,hel,rfl⟩:=storeP_id hs
 obtain ⟨b,base,hvx,hρ⟩:=vx.ptr_inv
 cases hvx
 obtain ⟨cur,m,g1,g2,g3,g4,g5,g6⟩:=hR.arr hg hρ
 obtain ⟨s1,s2,s4,s3⟩:=storable_list hstor vy
 obtain ⟨hidx,hee⟩:=List.getElem?_eq_some_iff.1 he
 have hb1:idx*sz+sz≤m*sz:=by
  have:(idx+1)*sz≤m*sz:=Nat.mul_le_mul_right _ (by omega)
  rw [Nat.add_mul]at this;omega
 have hu:u.cells.toList=[u]:=by rw [hone]
 rw [hu]at s2 s4 s3
 have hp:base+idx*sz+off+[u].length≤cur.size:=by rw [s2];omega
 have hp':base+idx*sz+off<cur.size:=by simp at hp;omega
 have hturn:ecells sz (turn sz off 1 e x)=(ecells sz e).take off++ecells 1 x++(ecells sz e).drop (off+1):=by
  unfold turn
  split
  ·rename_i hc
   obtain ⟨e1,e2⟩:=hc
   subst e1
   rw [e2]
   simp [hel]
  ·rfl
 obtain ⟨k1,k2⟩:=hR.write hg hρ g1 g2 g3 (xs.set idx (turn sz off 1 e x)) (by simp) g4 g5 (base+idx*sz+off) [u] hp s4 (elemsR_iff.2 fun k d hk=>by
  rw [List.getElem?_set]at hk
  have g6':=elemsR_iff.1 g6
  by_cases hki:idx=k
  ·subst hki
   rw [if_pos rfl,if_pos hidx]at hk
   cases hk
   obtain ⟨w1,w2⟩:=g6' idx e he
   rw [hturn]
   refine ⟨by simp only [List.length_append,List.length_take,List.length_drop,hel,s1];omega,?_⟩
   have l1:((ecells sz e).take off).length=off:=by rw [List.length_take,hel];omega
   refine CellsOk.append (CellsOk.append ?_ ?_) ?_
   ·exact (w2.take off).other hp (.inl (by rw [l1];exact Nat.le_refl _))
   ·rw [l1]
    exact CellsOk.same hp (by rw [s1,s2];exact Nat.le_refl _) s3
   ·rw [List.length_append,l1,s1]
    have:=(w2.drop (off+1)).other hp (.inr (by rw [s2];omega))
    simpa [Nat.add_assoc] using this
  ·rw [if_neg hki]at hk
   obtain ⟨w1,w2⟩:=g6' k d hk
   refine ⟨w1,w2.other hp ?_⟩
   rw [w1,s2]
   rcases Nat.lt_or_gt_of_ne hki with hlt|hgt
   ·have:idx*sz+(sz-1)<k*sz:=mul_lt_of hlt (by omega)
    right;omega
   ·have:k*sz+(sz-1)<idx*sz:=mul_lt_of hgt (by omega)
    left;omega)
 refine ⟨⟨cur[base+idx*sz+off],?_⟩,calm_frozen (ob:=.cells cur ety (0,0)) (by exact g1) rfl,c.ρ,?_⟩
 ·simp [World.cell?,g1,hp']
 ·rw [setCell_eq_setRow c.w b _ cur ety (0,0) u g1,←spl_one hp']
  exact ⟨k1,k2⟩
theorem set_post {h h':Heap} {c:Ctx} (hR:Rel h c) {w1:World} (hb:Below c.w.heap.size c.w w1) (hf:∀a,w1.frozen? a=c.w.frozen? a) {id sz idx off:Nat} {x:DV} {p:Addr} {u:Value} (hp:VR c (.ptr id sz idx off) (.pointer (some p)))
  (hs:storeP h 1 (.ptr id sz idx off) x=some h') (hx:VR c x u) (hone:u.cells=#[u]) {d:DV} {v:Value} (hv:VR c d v):Post h c h' (w1.setCell p u) d v:=by
 obtain ⟨k1,k2⟩:=hR.grow hb hf
 obtain ⟨_,_,ρ',m1,m2⟩:=store_setCell k1 (hp.mono k2) hs (hx.mono k2) hone
 exact ⟨ρ',m1,k2.trans m2,(hv.mono k2).mono m2⟩
theorem two_vals {c:Ctx} {d1 d2:DV} {vals:List Value} (hv:VRs c [d1,d2] vals):∃ v1 v2,vals=[v1,v2]∧VR c d1 v1∧VR c d2 v2:=by
 have hl:=hv.1
 cases vals with
 | nil=>simp at hl
 | cons a r=>cases r with
  | nil=>simp at hl
  | cons b r=>cases r with
   | nil=>exact ⟨a,b,rfl,hv.2 0 (by simp) (by simp),hv.2 1 (by simp) (by simp)⟩
   | cons c r=>simp at hl
theorem as_ok {P:Program} {f:Nat} {fn:Func} {tE tF tPE tPF:TypeId} (T:AsText P f fn tE tF tPE tPF):HookOk P f (asHook tE tF tPE tPF):=by
 have hname : fn.name ≠ "runtime.NumGoroutine" := by simpa using T.hn
 obtain ⟨body,hbody⟩:=Option.isSome_iff_exists.1 T.hb
 refine ⟨fun args h d h' c vals hs hR hv=>?_,fun h args v h' hl hs=>?_⟩
 ·have hent:=fun a=>callFunc_enter T.hf hbody hname (w:=c.w) a
  refine .inr ⟨f,vals.toArray,hent _,?_⟩
  unfold asHook at hs
  split at hs
  ·-- nil
   cases hs
   obtain ⟨v1,v2,rfl,h1,h2⟩:=two_vals hv
   cases h1
   refine (T.nil v2 c.w).mono fun e w' hp=>?_
   obtain ⟨rfl,rfl⟩:=hp
   exact ⟨_,rfl,Post.pure hR (.bool false)⟩
  ·rename_i t x t' id sz idx off
   obtain ⟨v1,v2,rfl,h1,h2⟩:=two_vals hv
   cases h1 with
   | iface h1 =>
   rename_i v1
   cases h2 with
   | iface h2 =>
   obtain ⟨b,base,rfl,hρ⟩:=h2.ptr_inv
   split at hs
   ·rename_i ht
    subst ht
    split at hs
    ·rename_i k hk
     split at hs
     ·rename_i h'' hst
      cases hs
      obtain ⟨q,n,hch,hq⟩:=findNum_sound hR 50 (.iface h1) hk
      cases q with
      | none=>cases hq
      | some q =>
       cases hq
       obtain ⟨⟨old,ho⟩,hfr,_⟩:=store_setCell hR h2 hst (VR.int .i64 q) rfl
       refine (T.num _ _ n _ old c.w hR.laid hch ho hfr).mono fun e w' hp=>?_
       obtain ⟨rfl,w1,⟨hb,hf⟩,rfl⟩:=hp
       exact ⟨_,rfl,set_post hR hb hf h2 hst (.int .i64 q) rfl (.bool true)⟩
     ·cases hs
    ·rename_i hk
     split at hs
     ·rename_i hsome
      cases hs
      obtain ⟨h'',hst⟩:=Option.isSome_iff_exists.1 hsome
      obtain ⟨q,n,hch,hq⟩:=findNum_sound hR 50 (.iface h1) hk
      cases q with
      | some q=>cases hq
      | none =>
       obtain ⟨⟨old,ho⟩,hfr,_⟩:=store_setCell hR h2 hst (VR.int .i64 0) rfl
       refine (T.num _ _ n _ old c.w hR.laid hch ho hfr).mono fun e w' hp=>?_
       obtain ⟨rfl,w1,⟨hb,hf⟩,rfl⟩:=hp
       obtain ⟨k1,k2⟩:=hR.grow hb hf
       exact ⟨_,rfl,_,k1,k2,.bool false⟩
     ·cases hs
    ·cases hs
   ·split at hs
    ·rename_i ht
     subst ht
     split at hs
     ·rename_i htF
      subst htF
      split at hs
      ·rename_i y hy
       split at hs
       ·rename_i h'' hst
        cases hs
        obtain ⟨bq,oq,rfl,_⟩:=shift2_sound hy h1
        obtain ⟨⟨old,ho⟩,hfr,_⟩:=store_setCell hR h2 hst h1 rfl
        refine (T.hit _ _ old c.w hR.laid ho hfr).mono fun e w' hp=>?_
        obtain ⟨rfl,w1,⟨hb,hf⟩,rfl⟩:=hp
        exact ⟨_,rfl,set_post hR hb hf h2 hst h1 rfl (.bool true)⟩
       ·cases hs
      ·cases hs
     ·split at hs
      ·rename_i htE
       subst htE
       split at hs
       ·cases hs
        rw [h1.int_inv]
        refine (T.miss _ _ c.w hR.laid).mono fun e w' hp=>?_
        obtain ⟨rfl,hb,hf⟩:=hp
        obtain ⟨k1,k2⟩:=hR.grow hb hf
        exact ⟨_,rfl,_,k1,k2,.bool false⟩
       ·cases hs
      ·cases hs
    ·cases hs
  ·cases hs
 ·unfold asHook at hs
  split at hs
  ·cases hs;exact .refl _
  ·split at hs
   ·split at hs
    ·split at hs
     ·rename_i hst
      cases hs;exact storeP_keeps hst
     ·cases hs
    ·split at hs
     ·cases hs;exact .refl _
     ·cases hs
    ·cases hs
   ·split at hs
    ·split at hs
     ·split at hs
      ·split at hs
       ·rename_i hst
        cases hs;exact storeP_keeps hst
       ·cases hs
      ·cases hs
     ·split at hs
      ·split at hs
       ·cases hs;exact .refl _
       ·cases hs
      ·cases hs
    ·cases hs
  ·cases hs
end Go.Dm
/-
Part 41 of "Dm": slices.Clone whose row is written no more.
-/
namespace Go.Dm
def inlHook (ety sz bytes:Nat):Hook:=fun h args =>
 match cloneHook ety sz bytes h args with
 | some (v,h1)=>freeze h1 v
 | none=>none
theorem Post.frozen {h h1 h2:Heap} {c:Ctx} {w:World} {d d':DV} {v:Value} (hp:Post h c h1 w d v) (hf:freeze h1 d=some (d',h2)):Post h c h2 w d' v:=by
 obtain ⟨ρ,k1,k2,k3⟩:=hp
 obtain ⟨⟨q1,q2⟩,q3⟩:=freeze_sound k1 k3 hf
 exact ⟨ρ,q1,k2.trans q2,q3⟩
theorem inl_ok {P:Program} {f:Nat} {ety sz bytes:Nat} (hk:HookOk P f (cloneHook ety sz bytes)):HookOk P f (inlHook ety sz bytes):=by
 refine ⟨fun args h d h' c vals hs hR hv=>?_,fun h args v h' hl hs=>?_⟩
 ·unfold inlHook at hs
  split at hs
  ·rename_i v h1 hc
   rcases hk.1 args h v h1 c vals hc hR hv with ⟨u,w',k1,k2⟩|⟨f',vals',k1,k2⟩
   ·exact .inl ⟨u,w',k1,k2.frozen hs⟩
   ·exact .inr ⟨f',vals',k1,k2.mono fun e w hp=>by
     obtain ⟨u,rfl,hp⟩:=hp
     exact ⟨u,rfl,hp.frozen hs⟩⟩
  ·cases hs
 ·unfold inlHook at hs
  split at hs
  ·rename_i u h1 hc
   exact (hk.2 h args u h1 hl hc).trans (freeze_keeps hs)
  ·cases hs
end Go.Dm
