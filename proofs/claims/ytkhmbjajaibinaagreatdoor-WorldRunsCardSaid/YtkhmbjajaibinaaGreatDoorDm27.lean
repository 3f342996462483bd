/-
Part 27 of "Dm": the machine's runs are the program's.
-/
import Derived.Test.YtkhmbjajaibinaaGreatDoorDm31
namespace Go.Dm

def exitOf : Ex → Exit
  | .normal => .normal
  | .exit id => .exit id
  | .ret => .ret

/-- What the machine runs is the program's code; what stands in the place of a body is right. -/
structure Good (P : Program) (D : DProg) : Prop where
  mixed : P.follows .mixedOrders = true
  comp : ∀ f df, D.fn f = some df → ∃ fn, P.funcs[f]? = some fn ∧ compFunc P fn df.mode = some df
  hooks : ∀ f hk, D.hook f = some hk → ∀ args h d h' c vals, hk h args = some (d, h') → Rel h c → VRs c args vals → CallOk P f vals.toArray h c h' d
  keep : HooksKeep D

section
variable {P : Program} {D : DProg}

def CodeSound (P : Program) (D : DProg) (n : Nat) : Prop :=
  ∀ code dc h c env a e env' h' Q, compCode P code = some dc → exec D n dc env h = .ok e env' h' → Rel h c → EnvR c env a → (∀ a' w', St c h' env' a' w' → Q (exitOf e) a' w') → code.wp P Q a c.w

def LoopSound (P : Program) (D : DProg) (n : Nat) : Prop :=
  ∀ code dc h c env a e env' h' Q, compCode P code = some dc → exec D n (.loop dc) env h = .ok e env' h' → Rel h c → EnvR c env a → (∀ a' w', St c h' env' a' w' → Q (exitOf e) a' w') → Code.rounds P code Q n a c.w

theorem frame_env {c : Ctx} {args : List DV} {vals : List Value} (hv : VRs c args vals) (n : Nat) :
    EnvR c (args ++ List.replicate (n - args.length) undefD) { tmps := vals.toArray ++ Array.replicate (n - vals.toArray.size) Go.undef, defers := [] } := by
  have hl := hv.1
  refine ⟨by simp [hl], rfl, fun i hi => ?_⟩
  simp only [List.length_append, List.length_replicate] at hi
  by_cases h1 : i < args.length
  · have h2 : i < vals.length := by omega
    rw [List.getElem_append_left h1]
    have := hv.2 i h1 h2
    simpa [Array.getElem?_append, h2] using this
  · rw [List.getElem_append_right (by omega)]
    simp only [List.getElem_replicate]
    have h2 : ¬ i < vals.length := by omega
    have h3 : i - vals.length < n - vals.length := by omega
    have : (vals.toArray ++ Array.replicate (n - vals.toArray.size) Go.undef).getD i Go.undef = Go.undef := by
      simp [Array.getElem?_append, h2, h3]
    rw [this]
    exact .undef

theorem go_sound {n : Nat} (hC : CodeSound P D n) {fn : Func} {body : Code} {df : DFunc} (hb : fn.body = some body) (hcb : compCode P body = some df.body) (hrs : fn.results.toList.mapM (compRes P) = some df.results) (hnt : df.ntmps = fn.ntmps)
    {f : Nat} (hf : P.funcs[f]? = some fn) {args : List DV} {vals : List Value} {h : Heap} {c : Ctx} (hR : Rel h c) (hv : VRs c args vals) {d : DV} {h' : Heap}
    (he : (match exec D n df.body (args ++ List.replicate (df.ntmps - args.length) undefD) h with
          | .ok (.exit _) _ _ => none
          | .ok _ env h' => match resultsOf h' env df.results with
            | some v => some (v, h')
            | none => none
          | .fail => none) = some (d, h')) : Calls P f vals.toArray c.w (CallPost h c h' d) := by
  have fin : ∀ e env' h1, e = Ex.normal ∨ e = Ex.ret → exec D n df.body (args ++ List.replicate (df.ntmps - args.length) undefD) h = .ok e env' h1 → resultsOf h1 env' df.results = some d → h1 = h' → Calls P f vals.toArray c.w (CallPost h c h' d) := by
    intro e env' h1 hex hrun hres e1
    subst e1
    refine calls_of_wp hf hb (hC body df.body h c _ _ e env' h1 _ hcb hrun hR (by have := frame_env hv df.ntmps; rw [hnt] at this ⊢; exact this) fun a' w' hst => ?_)
    obtain ⟨ρ', k1, k2, k3⟩ := hst
    obtain ⟨v, r1, r2⟩ := results_sound (P := P) (fn := fn) hrs k1 k3 hres
    have : a'.defers = [] ∧ ∃ v, (results fn a'.tmps).run P w' = .ok v w' ∧ CallPost h c h1 d (.returned v) w' := ⟨k3.defers, v, r1, v, rfl, ρ', k1, k2, r2⟩
    rcases hex with rfl | rfl
    · exact this
    · exact this
  split at he
  · cases he
  · rename_i e env' h1 hne hrun
    split at he
    · rename_i v hres
      cases he
      refine fin e env' _ ?_ hrun hres rfl
      cases e with
      | normal => exact .inl rfl
      | exit id => exact absurd rfl (hne id)
      | ret => exact .inr rfl
    · cases he
  · cases he

theorem go_keeps (hk : HooksKeep D) {n : Nat} {df : DFunc} {args : List DV} {h h' : Heap} {d : DV} (hl : h.lim ≤ h.n)
    (he : (match exec D n df.body (args ++ List.replicate (df.ntmps - args.length) undefD) h with
          | .ok (.exit _) _ _ => none
          | .ok _ env h' => match resultsOf h' env df.results with
            | some v => some (v, h')
            | none => none
          | .fail => none) = some (d, h')) : Keeps h h' := by
  split at he
  · cases he
  · rename_i h2
    split at he
    · cases he; exact exec_keeps hk n _ _ _ _ _ _ hl h2
    · cases he
  · cases he

theorem callFunc_enter {f : FuncId} {fn : Func} {body : Code} (hf : P.funcs[f]? = some fn) (hb : fn.body = some body) (hn : fn.name ≠ "runtime.NumGoroutine") (vals : Array Value) (w : World) : (callFunc f vals).run P w = .ok (.enter f vals) w := by
  simp [callFunc, hf, hb, hn]

theorem enter_sound (G : Good P D) {n : Nat} (hC : CodeSound P D n) : CallSound P (enter (exec D n) D) := by
  intro f args h d h' c vals he hR hv
  unfold enter at he
  split at he
  · rename_i hk hk'; exact G.hooks f hk hk' args h d h' c vals he hR hv
  · split at he
    · cases he
    · rename_i df hdf
      obtain ⟨fn, hf, hcf⟩ := G.comp f df hdf
      unfold compFunc at hcf
      split at hcf
      · rename_i body hb
        split at hcf
        · rename_i b rs hcb hrs
          split at hcf
          · rename_i hname
            refine .inr ⟨f, vals.toArray, callFunc_enter hf hb hname _ _, ?_⟩
            have hdfe : df = { ntmps := fn.ntmps, results := rs, body := b, mode := df.mode } := (Option.some.inj hcf).symm
            have e1 : df.body = b := by rw [hdfe]
            have e2 : df.results = rs := by rw [hdfe]
            have e3 : df.ntmps = fn.ntmps := by rw [hdfe]
            simp only at he
            split at he
            · exact go_sound hC hb (by rw [e1]; exact hcb) (by rw [e2]; exact hrs) e3 hf hR hv he
            · split at he
              · rename_i v1 h1 hgo
                cases he
                have := go_sound hC hb (by rw [e1]; exact hcb) (by rw [e2]; exact hrs) e3 hf (hR.setLim (Nat.le_refl _)) hv hgo
                refine this.mono fun e w' hp => ?_
                obtain ⟨v, e0, ρ', k1, k2, k3⟩ := hp
                have hkeep := go_keeps G.keep (Nat.le_refl _) hgo
                exact ⟨v, e0, ρ', k1.setLim (Nat.le_trans hR.lim hkeep.n), k2, k3⟩
              · cases he
            · split at he
              · rename_i ds hds
                split at he
                · rename_i v1 h1 hgo
                  split at he
                  · rename_i d1 hd1
                    split at he
                    · rename_i hun
                      cases he
                      have := go_sound hC hb (by rw [e1]; exact hcb) (by rw [e2]; exact hrs) e3 hf hR.lend (resolveL_in hR hds hv) hgo
                      refine this.mono fun e w' hp => ?_
                      obtain ⟨v, e0, ρ', k1, k2, k3⟩ := hp
                      exact ⟨v, e0, pure_out hR k1 k2 k3 hd1 hun⟩
                    · cases he
                  · cases he
                · cases he
              · cases he
            · split at he
              · rename_i id sz off len rest
                split at he
                · rename_i ety sz' xs hgid
                  split at he
                  · rename_i hcond
                    obtain ⟨hcond1, hcond2⟩ := hcond
                    subst hcond1
                    split at he
                    · rename_i l hl
                      split at he
                      · rename_i hall
                        cases he
                        have hv0 : ∃ v0 vr, vals = v0 :: vr := by
                          cases vals with
                          | nil => have := hv.1; simp at this
                          | cons v0 vr => exact ⟨v0, vr, rfl⟩
                        obtain ⟨v0, vr, rfl⟩ := hv0
                        have hvh : VR c (.sl id sz off len) v0 := hv.2 0 (by simp) (by simp)
                        obtain ⟨e, cap, ρ1, hcase, k1, k2, k3⟩ := split_in hR hgid hvh ((rest.map visLen).foldl (· + ·) 0)
                        have hscn : settle h ety sz (match exec D n df.body ((.sl h.n sz off len :: rest) ++ List.replicate (df.ntmps - (DV.sl h.n sz off len :: rest).length) undefD) { (h.set id .dead).push (.arr ety sz (xs ++ List.replicate e .unk) cap) with lim := h.n } with
                            | .ok (.exit _) _ _ => none
                            | .ok _ env h' => match resultsOf h' env df.results with
                              | some v => some (v, h')
                              | none => none
                            | .fail => none) = some l := by
                          rcases hcase with ⟨rfl, rfl⟩ | ⟨hlt, rfl⟩
                          · exact hl
                          · have := List.all_eq_true.1 hall e (List.mem_range.2 hlt)
                            split at this
                            · rename_i l' hl'
                              rw [sameL_eq this]; exact hl'
                            · cases this
                        have hgo : ∃ r hj, (match exec D n df.body ((.sl h.n sz off len :: rest) ++ List.replicate (df.ntmps - (DV.sl h.n sz off len :: rest).length) undefD) { (h.set id .dead).push (.arr ety sz (xs ++ List.replicate e .unk) cap) with lim := h.n } with
                            | .ok (.exit _) _ _ => none
                            | .ok _ env h' => match resultsOf h' env df.results with
                              | some v => some (v, h')
                              | none => none
                            | .fail => none) = some (r, hj) := by
                          cases hx : (match exec D n df.body ((.sl h.n sz off len :: rest) ++ List.replicate (df.ntmps - (DV.sl h.n sz off len :: rest).length) undefD) { (h.set id .dead).push (.arr ety sz (xs ++ List.replicate e .unk) cap) with lim := h.n } with
                            | .ok (.exit _) _ _ => none
                            | .ok _ env h' => match resultsOf h' env df.results with
                              | some v => some (v, h')
                              | none => none
                            | .fail => none) with
                          | none => rw [hx] at hscn; cases hscn
                          | some p => exact ⟨p.1, p.2, rfl⟩
                        obtain ⟨r, hj, hgo⟩ := hgo
                        rw [hgo] at hscn
                        have hlim : h.n ≤ ((h.set id .dead).push (.arr ety sz (xs ++ List.replicate e .unk) cap)).n := Nat.le_succ _
                        have hvs : VRs (c.next c.w ρ1 ((h.set id .dead).push (.arr ety sz (xs ++ List.replicate e .unk) cap))) (.sl h.n sz off len :: rest) (v0 :: vr) := by
                          refine ⟨hv.1, fun i h1 h2 => ?_⟩
                          cases i with
                          | zero => exact k3
                          | succ i => exact (hv.2 (i + 1) h1 h2).mono k2
                        have hcall := go_sound hC hb (by rw [e1]; exact hcb) (by rw [e2]; exact hrs) e3 hf (k1.setLim hlim) hvs hgo
                        have hkp := go_keeps G.keep hlim hgo
                        refine hcall.mono fun e w' hp => ?_
                        obtain ⟨v, e0, ρj, q1, q2, q3⟩ := hp
                        refine ⟨v, e0, split_out hR hgid q1 (k2.trans q2) (fun i hi => ?_) hscn q3⟩
                        have := hkp.get i hi
                        rw [this]
                        exact get_push_old hi
                      · cases he
                    · cases he
                  · cases he
                · exact go_sound hC hb (by rw [e1]; exact hcb) (by rw [e2]; exact hrs) e3 hf hR hv he
              · exact go_sound hC hb (by rw [e1]; exact hcb) (by rw [e2]; exact hrs) e3 hf hR hv he
          · cases hcf
        · cases hcf
      · cases hcf

theorem compCode_region {id : Nat} {ops : Array Oper} {draw : Bool} {dc : DCode} (hc : compCode P (.region id ops draw) = some dc) : compRegion P ops.toList draw = some dc := hc

theorem code_sound (G : Good P D) : ∀ n, CodeSound P D n ∧ LoopSound P D n := by
  intro n
  induction n with
  | zero =>
    refine ⟨fun code dc h c env a e env' h' Q _ he => ?_, fun code dc h c env a e env' h' Q _ he => ?_⟩
    · cases he
    · cases he
  | succ n ih =>
    obtain ⟨iC, iL⟩ := ih
    have hcall := enter_sound G iC
    have hkeep := enter_keeps (run := exec D n) G.keep (exec_keeps G.keep n)
    refine ⟨?_, ?_⟩
    · intro code dc h c env a e env' h' Q hcc he hR hE hQ
      unfold compCode at hcc
      split at hcc
      · cases hcc
        simp only [exec] at he
        cases he
        exact wp_skip (hQ _ _ ⟨c.ρ, by rw [hR.same]; exact ⟨hR, .refl c, hE⟩⟩)
      · rename_i x y
        split at hcc
        · rename_i _ _ dx dy hx hy
          cases hcc
          simp only [exec] at he
          refine wp_seq ?_
          split at he
          · rename_i env1 h1 h2
            refine iC x dx h c env a .normal env1 h1 _ hx h2 hR hE fun a' w' hst => ?_
            obtain ⟨ρ', k1, k2, k3⟩ := hst
            show y.wp P Q a' w'
            exact iC y dy h1 (c.next w' ρ' h1) env1 a' e env' h' Q hy he k1 k3 fun a2 w2 hst2 => hQ _ _ (hst2.trans k2)
          · rename_i hne
            refine iC x dx h c env a e env' h' _ hx he hR hE fun a' w' hst => ?_
            have := hQ a' w' hst
            cases e with
            | normal => exact absurd he (hne env' h')
            | exit id => exact this
            | ret => exact this
        · cases hcc
      · rename_i cd x y
        split at hcc
        · rename_i _ _ _ cd' dx dy h1 h2 h3
          cases hcc
          simp only [exec] at he
          have hv := opd_VR h1 hE
          split at he
          · rename_i hcv
            rw [hcv] at hv
            exact wp_cond_true hv.bool_inv (iC x dx h c env a e env' h' Q h2 he hR hE hQ)
          · rename_i hcv
            rw [hcv] at hv
            exact wp_cond_false hv.bool_inv (iC y dy h c env a e env' h' Q h3 he hR hE hQ)
          · cases he
        · cases hcc
      · rename_i id b
        split at hcc
        · rename_i _ db hb
          cases hcc
          simp only [exec] at he
          refine wp_block ?_
          split at he
          · rename_i id' env1 h1 h2
            split at he
            · rename_i hid
              cases he
              exact iC b db h c env a (.exit id') _ _ _ hb h2 hR hE fun a' w' hst => by
                show Exit.inBlock id Q (.exit id') a' w'
                simp only [Exit.inBlock, hid, if_true]
                exact hQ a' w' hst
            · rename_i hid
              cases he
              exact iC b db h c env a (.exit id') _ _ _ hb h2 hR hE fun a' w' hst => by
                show Exit.inBlock id Q (.exit id') a' w'
                simp only [Exit.inBlock, hid, if_false]
                exact hQ a' w' hst
          · rename_i hne
            refine iC b db h c env a e env' h' _ hb he hR hE fun a' w' hst => ?_
            have := hQ a' w' hst
            cases e with
            | normal => exact this
            | exit id' => exact absurd he (hne id' env' h')
            | ret => exact this
        · cases hcc
      · rename_i b
        split at hcc
        · rename_i _ db hb
          cases hcc
          refine wp_loop_rounds (n + 1) ?_
          rw [rounds_succ]
          simp only [exec] at he
          split at he
          · rename_i env1 h1 h2
            refine iC b db h c env a .normal env1 h1 _ hb h2 hR hE fun a' w' hst => ?_
            obtain ⟨ρ', k1, k2, k3⟩ := hst
            show Code.rounds P b Q n a' w'
            exact iL b db h1 (c.next w' ρ' h1) env1 a' e env' h' Q hb he k1 k3 fun a2 w2 hst2 => hQ _ _ (hst2.trans k2)
          · rename_i hne
            refine iC b db h c env a e env' h' _ hb he hR hE fun a' w' hst => ?_
            have := hQ a' w' hst
            cases e with
            | normal => exact absurd he (hne env' h')
            | exit id => exact this
            | ret => exact this
        · cases hcc
      · cases hcc
        simp only [exec] at he
        cases he
        exact wp_exit (hQ _ _ ⟨c.ρ, by rw [hR.same]; exact ⟨hR, .refl c, hE⟩⟩)
      · cases hcc
        simp only [exec] at he
        cases he
        exact wp_ret (hQ _ _ ⟨c.ρ, by rw [hR.same]; exact ⟨hR, .refl c, hE⟩⟩)
      · rename_i id ops draw
        cases draw with
        | false =>
          simp only [compRegion, Bool.false_eq_true, if_false] at hcc
          split at hcc
          · rename_i ds hds
            cases hcc
            simp only [exec] at he
            split at he
            · rename_i env1 h1 hrun
              cases he
              exact wp_region_list (by
                have := ops_sound hcall (ops := ops.toList) (Q := Q) ops.toList ds h c env a _ _ hds hrun hR hE hQ
                simpa using this)
            · cases he
          · cases hcc
        | true =>
          have hdc : ∃ ds, dc = .draw ds := by
            obtain ⟨dis, bs, e, _⟩ := compRegion_fit hcc
            exact ⟨_, e⟩
          obtain ⟨ds, rfl⟩ := hdc
          simp only [exec] at he
          split at he
          · rename_i env1 h1 hrun
            cases he
            exact draw_sound G.mixed hcc hkeep hcall hrun hR hE hQ
          · cases he
      · cases hcc
    · intro code dc h c env a e env' h' Q hcc he hR hE hQ
      rw [rounds_succ]
      simp only [exec] at he
      split at he
      · rename_i env1 h1 h2
        refine iC code dc h c env a .normal env1 h1 _ hcc h2 hR hE fun a' w' hst => ?_
        obtain ⟨ρ', k1, k2, k3⟩ := hst
        show Code.rounds P code Q n a' w'
        exact iL code dc h1 (c.next w' ρ' h1) env1 a' e env' h' Q hcc he k1 k3 fun a2 w2 hst2 => hQ _ _ (hst2.trans k2)
      · rename_i hne
        refine iC code dc h c env a e env' h' _ hcc he hR hE fun a' w' hst => ?_
        have := hQ a' w' hst
        cases e with
        | normal => exact absurd he (hne env' h')
        | exit id => exact this
        | ret => exact this

/-- **A call.** -/
theorem call_sound (G : Good P D) (n : Nat) : CallSound P (callD D n) := enter_sound G (code_sound G n).1

end
end Go.Dm
