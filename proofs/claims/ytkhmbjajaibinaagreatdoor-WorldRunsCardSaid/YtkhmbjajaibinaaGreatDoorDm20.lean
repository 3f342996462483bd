/-
Part 20 of "Dm": regions in the text's order; guards; results.
-/
import Derived.Test.YtkhmbjajaibinaaGreatDoorDm19
namespace Go.Dm

/-- The state behind some code. -/
def St (c : Ctx) (h' : Heap) (env' : Env) (a' : Act) (w' : World) : Prop :=
  ∃ ρ', Rel h' (c.next w' ρ' h') ∧ CtxLe c (c.next w' ρ' h') ∧ EnvR (c.next w' ρ' h') env' a'

theorem next_next (c : Ctx) (w1 w2 : World) (ρ1 ρ2 : Nat → Option (Nat × Nat)) (h1 h2 : Heap) : (c.next w1 ρ1 h1).next w2 ρ2 h2 = c.next w2 ρ2 h2 := rfl

section
variable {P : Program} {h h' : Heap} {c : Ctx} {env : Env} {a : Act} {o : Oper} {r : DV}

theorem St.trans {h1 : Heap} {w1 : World} {ρ1 : Nat → Option (Nat × Nat)} (hle : CtxLe c (c.next w1 ρ1 h1)) {h2 : Heap} {env2 : Env} {a2 : Act} {w2 : World} (hs : St (c.next w1 ρ1 h1) h2 env2 a2 w2) : St c h2 env2 a2 w2 := by
  obtain ⟨ρ2, k1, k2, k3⟩ := hs
  exact ⟨ρ2, k1, hle.trans k2, k3⟩

theorem EnvR.mono {c c' : Ctx} (hE : EnvR c env a) (hle : CtxLe c c') : EnvR c' env a := ⟨hE.size, hE.defers, fun i hi => (hE.val i hi).mono hle⟩

theorem EnvR.put (hE : EnvR c env a) {v : Value} {d : DV} (hv : VR c d v) (dst : Option Nat) : EnvR c (Dm.put env dst d) (a.put dst v) := by
  cases dst with
  | none => exact hE
  | some t =>
    refine ⟨by simp [Dm.put, Act.put, hE.size], hE.defers, fun i hi => ?_⟩
    simp only [Dm.put, List.length_set] at hi
    have hi' : i < a.tmps.size := by rw [hE.size]; exact hi
    have := hE.val i hi
    simp only [Array.getD_eq_getD_getElem?] at this
    simp only [Dm.put, Act.put, List.getElem_set, Array.getD_eq_getD_getElem?, Array.getElem?_setIfInBounds]
    by_cases e : t = i
    · subst e; simpa [hi'] using hv
    · simpa [e] using this

theorem EnvR.get (hE : EnvR c env a) (t : Nat) : VR c ((env[t]?).getD .unk) (a.tmps.getD t undef) := by
  by_cases ht : t < env.length
  · rw [List.getElem?_eq_getElem ht]; exact hE.val t ht
  · rw [List.getElem?_eq_none (Nat.le_of_not_lt ht)]; exact .unk _

/-- A guard is what the machine says. -/
theorem wanted_sound {ops : List Oper} {g : Option (Nat × Bool)} (hg : guardT ops o.guard = some g) (hE : EnvR c env a) {b : Bool} (hw : wantedD env g = some b) :
    Region.wanted o (yielded ops.toArray a.tmps) = b := by
  unfold guardT at hg
  split at hg
  · rename_i hn
    cases hg
    simp only [wantedD] at hw
    cases hw
    simp [Region.wanted, hn]
  · rename_i j want hn
    split at hg
    · rename_i og hog
      split at hg
      · rename_i t ht
        cases hg
        simp only [wantedD] at hw
        split at hw
        · rename_i b' hb
          cases hw
          obtain ⟨hlt, hb'⟩ := List.getElem?_eq_some_iff.1 hb
          have hv := hE.val t hlt
          rw [hb'] at hv
          have hv := hv.bool_inv
          have hlt' : t < a.tmps.size := by rw [hE.size]; exact hlt
          simp [hlt'] at hv
          simp [Region.wanted, hn, yielded, hog, ht, hlt', hv]
        · rename_i vs hb
          cases hw
          obtain ⟨hlt, hb'⟩ := List.getElem?_eq_some_iff.1 hb
          have hv := hE.val t hlt
          rw [hb'] at hv
          obtain ⟨us, hv, _⟩ := hv.tup_inv
          have hlt' : t < a.tmps.size := by rw [hE.size]; exact hlt
          simp [hlt'] at hv
          simp [Region.wanted, hn, yielded, hog, ht, hlt', hv]
        · cases hw
      · cases hg
    · cases hg

theorem VR.undef : VR c undefD Go.undef := .tup (ds := []) (vs := []) rfl (fun i h1 _ => absurd h1 (by simp))

theorem compOper_inv {ops : List Oper} {k : OKind} {s : Nat} {d : DOper} (hc : compOper P ops k s o = some d) :
    compOp P o = some d.op ∧ guardT ops o.guard = some d.guard ∧ d.dst = o.dst ∧ d.kind = k ∧ d.snap = s := by
  unfold compOper at hc
  split at hc
  · rename_i x g h1 h2; cases hc; exact ⟨h1, h2, rfl, rfl, rfl⟩
  · cases hc

/-- A region in the text's order. -/
theorem ops_sound {call : CallF} (hcall : CallSound P call) {ops : List Oper} {Q : Exit → Act → World → Prop} : ∀ (l : List Oper) (ds : List DOper) (h : Heap) (c : Ctx) (env : Env) (a : Act) (env' : Env) (h' : Heap),
    l.mapM (compOper P ops .write 0) = some ds → runOps call ds env h = some (env', h') → Rel h c → EnvR c env a → (∀ a' w', St c h' env' a' w' → Q .normal a' w') → wpList P ops.toArray Q l a c.w := by
  intro l
  induction l with
  | nil =>
    intro ds h c env a env' h' hm hr hR hE hQ
    simp only [List.mapM_nil, Option.pure_def, Option.some.injEq] at hm
    subst hm
    cases hr
    exact wpList_nil (hQ a c.w ⟨c.ρ, by rw [hR.same]; exact ⟨hR, .refl c, hE⟩⟩)
  | cons o l ih =>
    intro ds h c env a env' h' hm hr hR hE hQ
    simp only [List.mapM_cons, Option.pure_def, Option.bind_eq_bind, Option.bind_eq_some_iff] at hm
    obtain ⟨d, hd, ds', hds, hm⟩ := hm
    cases hm
    obtain ⟨h1, h2, h3, _, _⟩ := compOper_inv hd
    refine wpList_step fun K hK => ?_
    simp only [runOps] at hr
    split at hr
    · rename_i hw
      rw [if_pos (wanted_sound h2 hE hw)]
      split at hr
      · rename_i v h1' hone
        refine one_sound hcall h1 hR hE hone K Q fun u w' hp => ?_
        obtain ⟨ρ', k1, k2, k3⟩ := hp
        refine hK _ _ (ih ds' h1' (c.next w' ρ' h1') _ (a.put o.dst u) env' h' hds hr k1 ?_ fun a' w'' hst => hQ _ _ (hst.trans k2))
        rw [← h3]
        exact (hE.mono k2).put k3 _
      · cases hr
    · rename_i hw
      rw [if_neg (by rw [wanted_sound h2 hE hw]; simp)]
      refine hK _ _ (ih ds' h c _ (a.put o.dst Go.undef) env' h' hds hr hR ?_ hQ)
      rw [← h3]
      exact hE.put .undef _
    · cases hr

/-! ## results -/

/-- One result. -/
def resSem (a : Act) : ResultVar → Sem Value
  | .tmp t => pure (a.tmps.getD t Go.undef)
  | .cell x t => do loadVar t (← asAddr (a.tmps.getD x Go.undef))

theorem results_eq (fn : Func) (a : Act) : results fn a.tmps = (fn.results.mapM (resSem a) >>= fun vs => pure (if h : vs.size = 1 then vs[0] else .tuple vs)) := by
  unfold results
  congr 1

theorem res_sound {rv : ResultVar} {dr : DRes} (hc : compRes P rv = some dr) (hR : Rel h c) (hE : EnvR c env a) {d : DV} (hs : resultOf h env dr = some d) :
    ∃ v, (resSem a rv).run P c.w = .ok v c.w ∧ VR c d v := by
  unfold compRes at hc
  split at hc
  · rename_i t
    cases hc
    simp only [resultOf, Option.some.injEq] at hs
    subst hs
    exact ⟨_, by simp only [resSem, Sem.run_pure], hE.get t⟩
  · rename_i x t
    split at hc
    · rename_i n hn
      cases hc
      simp only [resultOf] at hs
      obtain ⟨b, o, off, cs, e1, e2, e3⟩ := loadP_view hR (hE.get x) hs
      obtain ⟨u, f1, f2⟩ := pick_sound (P := P) e2 e3 hn
      exact ⟨u, by simp only [resSem, e1, Sem.run_bind, asAddr, Sem.run_pure, Result.andThen_ok]; exact f1, f2⟩
    · cases hc

theorem mapM_run {α : Type} (f : α → Sem Value) (w : World) : ∀ (l : List α) (vs : List Value), l.length = vs.length → (∀ i (h1 : i < l.length) (h2 : i < vs.length), (f l[i]).run P w = .ok vs[i] w) → (l.mapM f).run P w = .ok vs w := by
  intro l
  induction l with
  | nil => intro vs hl _; cases vs with | nil => simp | cons => simp at hl
  | cons x l ih =>
    intro vs hl hv
    cases vs with
    | nil => simp at hl
    | cons v vs =>
      have h0 := hv 0 (by simp) (by simp)
      simp only [List.getElem_cons_zero] at h0
      have := ih vs (by simpa using hl) (fun i h1 h2 => by have := hv (i + 1) (by simpa using h1) (by simpa using h2); simpa only [List.getElem_cons_succ] using this)
      simp [List.mapM_cons, h0, this]

theorem results_sound {fn : Func} {rs : List DRes} (hc : fn.results.toList.mapM (compRes P) = some rs) (hR : Rel h c) (hE : EnvR c env a) {d : DV} (hs : resultsOf h env rs = some d) :
    ∃ v, (results fn a.tmps).run P c.w = .ok v c.w ∧ VR c d v := by
  have hl := mapM_length _ _ _ hc
  have main : ∀ ds : List DV, rs.mapM (resultOf h env) = some ds → ∃ vs : List Value, ds.length = vs.length ∧ (∀ i (h1 : i < ds.length) (h2 : i < vs.length), VR c ds[i] vs[i]) ∧
      (fn.results.mapM (resSem a)).run P c.w = .ok vs.toArray c.w := by
    intro ds hds
    have hl2 := mapM_length _ _ _ hds
    have each : ∀ i (hi : i < fn.results.toList.length), ∃ v, (resSem a fn.results.toList[i]).run P c.w = .ok v c.w ∧ VR c (ds[i]'(by omega)) v :=
      fun i hi => res_sound (mapM_get _ _ _ hc i hi (by omega)) hR hE (mapM_get _ _ _ hds i (by omega) (by omega))
    let vs : List Value := (List.range fn.results.toList.length).map fun i => if hi : i < fn.results.toList.length then Classical.choose (each i hi) else Go.undef
    have hvl : vs.length = fn.results.toList.length := by simp [vs]
    have hvi : ∀ i (hi : i < fn.results.toList.length), vs[i]'(by omega) = Classical.choose (each i hi) := fun i hi => by simp only [vs, List.getElem_map, List.getElem_range, dif_pos hi]
    refine ⟨vs, by omega, fun i h1 h2 => ?_, ?_⟩
    · rw [hvi i (by omega)]
      exact (Classical.choose_spec (each i (by omega))).2
    · rw [Array.mapM_eq_mapM_toList]
      have := mapM_run (P := P) (resSem a) c.w fn.results.toList vs hvl.symm
        (fun i h1 h2 => by rw [hvi i h1]; exact (Classical.choose_spec (each i h1)).1)
      simp only [Sem.run_map, this]
      rfl
  unfold resultsOf at hs
  rw [results_eq]
  split at hs
  · rename_i rr
    obtain ⟨vs, k1, k2, k3⟩ := main [d] (by simp [hs])
    have hv1 : vs.length = 1 := by rw [← k1]; rfl
    refine ⟨vs[0]'(by omega), ?_, k2 0 (by simp) (by omega)⟩
    simp only [Sem.run_bind, k3, Result.andThen_ok]
    simp [hv1]
  · rename_i hne
    split at hs
    · rename_i ds hds
      cases hs
      obtain ⟨vs, k1, k2, k3⟩ := main ds hds
      have hl2 := mapM_length _ _ _ hds
      have hv1 : vs.length ≠ 1 := by
        intro e
        have : rs.length = 1 := by omega
        obtain ⟨x, hx⟩ := List.length_eq_one_iff.1 this
        exact hne x hx
      refine ⟨.tuple vs.toArray, ?_, .tup k1 k2⟩
      simp only [Sem.run_bind, k3, Result.andThen_ok]
      simp [hv1]
    · cases hs

end
end Go.Dm
