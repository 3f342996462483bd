/-
Part 21 of "Dm": a region with an open order: its run in an order of our own, by positions.
-/
import Derived.Test.YtkhmbjajaibinaaGreatDoorDm34
namespace Go.Dm

/-- What 'drawOk' says. -/
structure Fit (P : Program) (ops : List Oper) (dis : List (Nat × DOper)) (bs : List Nat) : Prop where
  edge : ∀ j o e, ops[j]? = some o → e ∈ o.after.toList → Region.binds .any e = true → bitAt bs j e.on = true ∧ e.on < j
  clos : ∀ j o i, ops[j]? = some o → i < ops.length → bitAt bs j i = true → ∃ e, e ∈ o.after.toList ∧ Region.binds .any e = true ∧ (e.on = i ∨ bitAt bs e.on i = true)
  all : ∀ i, i < ops.length → ∃ (p : Nat) (x : Nat × DOper), dis[p]? = some x ∧ x.1 = i
  comp : ∀ (p : Nat) (x : Nat × DOper), dis[p]? = some x → ∃ o k s, ops[x.1]? = some o ∧ compOper P ops k s o = some x.2
  kind : ∀ (p : Nat) (x : Nat × DOper), dis[p]? = some x → kindFits x.2 = true
  pair : ∀ (p q : Nat) (x y : Nat × DOper), p < q → dis[p]? = some x → dis[q]? = some y → x.1 ≠ y.1 ∧ bitAt bs x.1 y.1 = false ∧ pairOk (bitAt bs y.1 x.1) (rankAt dis p) x.2 y.2 = true

theorem zipIdx_all {α : Type} {l : List α} {f : α × Nat → Bool} (h : l.zipIdx.all f = true) {j : Nat} {x : α} (hx : l[j]? = some x) : f (x, j) = true := by
  have := List.all_eq_true.1 h (x, j) (by rw [List.mem_zipIdx_iff_getElem?]; simpa using hx)
  exact this

theorem compRegion_fit {P : Program} {ops : List Oper} {dc : DCode} (hc : compRegion P ops true = some dc) : ∃ (dis : List (Nat × DOper)) (bs : List Nat), dc = .draw (dis.map (·.2)) ∧ Fit P ops dis bs := by
  simp only [compRegion, if_true] at hc
  split at hc
  · cases hc
  · rename_i dops hd
    split at hc
    · rename_i dis hdis
      split at hc
      · rename_i hok
        cases hc
        refine ⟨dis, bits ops, rfl, ?_⟩
        simp only [drawOk, Bool.and_eq_true] at hok
        obtain ⟨⟨⟨⟨k1, k2⟩, k3⟩, k4⟩, k5⟩ := hok
        refine ⟨fun j o e ho he hb => ?_, fun j o i ho hi hb => ?_, fun i hi => ?_, fun p x hx => ?_, fun p x hx => ?_, fun p q x y hpq hx hy => ?_⟩
        · have := List.all_eq_true.1 (zipIdx_all k1 ho) e he
          simp only [hb, Bool.not_true, Bool.false_or, Bool.and_eq_true, decide_eq_true_eq] at this
          exact this
        · have := List.all_eq_true.1 (zipIdx_all k2 ho) i (List.mem_range.2 hi)
          simp only [hb, Bool.not_true, Bool.false_or, List.any_eq_true, Bool.and_eq_true, Bool.or_eq_true, beq_iff_eq] at this
          obtain ⟨e, h1, h2, h3⟩ := this
          exact ⟨e, h1, h2, h3⟩
        · have := List.all_eq_true.1 k3 i (List.mem_range.2 hi)
          simp only [List.any_eq_true, beq_iff_eq] at this
          obtain ⟨x, h1, h2⟩ := this
          obtain ⟨p, hp⟩ := List.mem_iff_getElem?.1 h1
          exact ⟨p, x, hp, h2⟩
        · obtain ⟨hlt, hx'⟩ := List.getElem?_eq_some_iff.1 hx
          have hl := mapM_length _ _ _ hdis
          have := mapM_get _ _ _ hdis p (by omega) hlt
          rw [hx'] at this
          split at this
          · rename_i o ho
            simp only [Option.map_eq_some_iff] at this
            obtain ⟨d, hd, he⟩ := this
            subst he
            exact ⟨o, _, _, ho, hd⟩
          · cases this
        · exact List.all_eq_true.1 k4 x (List.mem_of_getElem? hx)
        · have h1 := zipIdx_all k5 hy
          have hx' : (dis.take q)[p]? = some x := by rw [List.getElem?_take_of_lt hpq]; exact hx
          have h2 := zipIdx_all h1 hx'
          simp only [Bool.and_eq_true, bne_iff_ne, ne_eq, Bool.not_eq_true'] at h2
          exact ⟨h2.1.1, h2.1.2, h2.2⟩
      · cases hc
    · cases hc

/-! ## the run by positions -/

def StepAt (call : CallF) (d : DOper) (env : Env) (hs : List Heap) (L : DLog) (b : Bool) (v : DV) (hs' : List Heap) (L' : DLog) : Prop :=
  wantedD env d.guard = some b ∧ ∃ g gs, hs = g :: gs ∧
    (b = false → v = undefD ∧ (hs' = if d.kind = .read then hs else g :: hs) ∧ L' = L) ∧
    (b = true → (d.kind = .read ∧ hs' = hs ∧ (∃ h0 h1, snapAt hs d.snap = some h0 ∧ stepOp h0 env d.op = some (v, h1)) ∧ L.free d.snap (target env d.op) = true ∧ L' = L.read (target env d.op)) ∨
      (d.kind = .write ∧ L' = L ∧ ∃ h1, oneOp call d.op env g = some (v, h1) ∧ hs' = h1 :: hs) ∨
      (d.kind = .create ∧ L' = L ∧ ∃ h0 h1, snapAt hs d.snap = some h0 ∧ heapOp call h0.n d.op env g = some (v, h1) ∧ hs' = h1 :: hs) ∨
      (d.kind = .create ∧ ∃ (ids : List Nat) (h1 : Heap), oneOp call d.op env g = some (v, h1) ∧ (∀ id, id < g.n → id ∉ ids → h1.get id = g.get id) ∧ (∀ id, id ∈ ids → (L.rds.all fun x => !(Nat.beq x id)) = true) ∧ hs' = h1 :: hs ∧ L' = { L with pks := ids.map (fun id => (gs.length, id)) ++ L.pks }))

structure Trace (call : CallF) (ds : List DOper) (env : Env) (hs : List Heap) (L0 : DLog) (E : Nat → Env) (HS : Nat → List Heap) (LS : Nat → DLog) (V : Nat → DV) (B : Nat → Bool) : Prop where
  E0 : E 0 = env
  H0 : HS 0 = hs
  L0 : LS 0 = L0
  step : ∀ p d, ds[p]? = some d → StepAt call d (E p) (HS p) (LS p) (B p) (V p) (HS (p + 1)) (LS (p + 1)) ∧ E (p + 1) = put (E p) d.dst (V p)

theorem appendD_other {g h1 : Heap} {ety sz bytes id' s0 off len id : Nat} {ys : List DV} {v : DV} (hs : appendD g ety sz bytes (.sl id' s0 off len) ys = some (v, h1)) (hid : id < g.n) (hne : id' ≠ id) : h1.get id = g.get id := by
  unfold appendD at hs
  simp only at hs
  split at hs
  · cases hs; rfl
  · split at hs
    · rename_i hg
      split at hs
      · split at hs
        · split at hs
          · cases hs; exact get_set_other (get_lt hg) (fun e => hne e.symm)
          · cases hs
        · split at hs
          · cases hs; exact get_push_old hid
          · split at hs
            · cases hs
              rw [get_push_old (by exact hid)]
              exact get_set_other (get_lt hg) (fun e => hne e.symm)
            · cases hs
      · cases hs
    · cases hs

/-- A store, an append leaves the other objects as they were. -/
theorem poke_other {L : DLog} {env : Env} {o : DOp} {id' id : Nat} {g h1 : Heap} {v : DV} (hp : pokeId L env o = some id') (hs : stepOp g env o = some (v, h1)) (hid : id < g.n) (hne : id' ≠ id) : h1.get id = g.get id := by
  cases o <;> simp only [pokeId] at hp <;> try (cases hp; done)
  case store n a x =>
    split at hp
    · rename_i i1 s1 x1 o1 hev
      split at hp
      · cases hp
        simp only [stepOp, hev] at hs
        split at hs
        · rename_i h2 hst
          cases hs
          unfold storeP at hst
          simp only at hst
          split at hst
          · rename_i hgid
            split at hst
            · split at hst
              · split at hst
                · cases hst; exact get_set_other (get_lt hgid) (fun e => hne e.symm)
                · cases hst
              · cases hst
            · cases hst
          · cases hst
        · cases hs
      · cases hp
    · cases hp
  case append e sz b a x =>
    split at hp
    · rename_i hev
      split at hp
      · cases hp
        simp only [stepOp, hev] at hs
        split at hs
        · exact appendD_other hs hid hne
        · cases hs
      · cases hp
    · cases hp
  case appendZ e sz b z a x =>
    split at hp
    · rename_i hev
      split at hp
      · cases hp
        simp only [stepOp, hev] at hs
        split at hs
        · split at hs
          · exact appendD_other hs hid hne
          · cases hs
        · cases hs
      · cases hp
    · cases hp

theorem poke_unread {L : DLog} {env : Env} {o : DOp} {id : Nat} (hp : pokeId L env o = some id) : (L.rds.all fun x => !(Nat.beq x id)) = true := by
  have hne : ∀ i : Nat, (if L.rds.all (fun x => !(Nat.beq x i)) = true then some i else none) = some id → (L.rds.all fun x => !(Nat.beq x id)) = true := by
    intro i hi
    split at hi
    · rename_i hall
      cases hi
      exact hall
    · cases hi
  unfold pokeId at hp
  split at hp
  · split at hp
    · exact hne _ hp
    · cases hp
  · split at hp
    · exact hne _ hp
    · cases hp
  · split at hp
    · exact hne _ hp
    · cases hp
  · cases hp

theorem trace_of_run {call : CallF} : ∀ (ds : List DOper) (env env' : Env) (hs : List Heap) (L : DLog) (h' : Heap), runDraw call ds env hs L = some (env', h') →
    ∃ E HS LS V B, Trace call ds env hs L E HS LS V B ∧ E ds.length = env' ∧ ∃ gs, HS ds.length = h' :: gs := by
  intro ds
  induction ds with
  | nil =>
    intro env env' hs L h' hr
    cases hs with
    | nil => cases hr
    | cons h hs =>
      cases hr
      exact ⟨fun _ => env, fun _ => h' :: hs, fun _ => L, fun _ => .unk, fun _ => false, ⟨rfl, rfl, rfl, fun p d hd => by simp at hd⟩, rfl, hs, rfl⟩
  | cons o r ih =>
    intro env env' hs L h' hr
    have key : ∀ b v hs1 L1, StepAt call o env hs L b v hs1 L1 → runDraw call r (put env o.dst v) hs1 L1 = some (env', h') →
        ∃ E HS LS V B, Trace call (o :: r) env hs L E HS LS V B ∧ E (o :: r).length = env' ∧ ∃ gs, HS (o :: r).length = h' :: gs := by
      intro b v hs1 L1 hst hr1
      obtain ⟨E, HS, LS, V, B, ht, h1, h2⟩ := ih _ _ _ _ _ hr1
      refine ⟨fun p => match p with | 0 => env | p + 1 => E p, fun p => match p with | 0 => hs | p + 1 => HS p, fun p => match p with | 0 => L | p + 1 => LS p, fun p => match p with | 0 => v | p + 1 => V p, fun p => match p with | 0 => b | p + 1 => B p, ⟨rfl, rfl, rfl, ?_⟩, h1, h2⟩
      intro p d hd
      cases p with
      | zero =>
        simp only [List.getElem?_cons_zero, Option.some.injEq] at hd
        subst hd
        exact ⟨by simpa only [ht.H0, ht.L0] using hst, by simp only [ht.E0]⟩
      | succ p => exact ht.step p d (by simpa using hd)
    cases hs with
    | nil => simp [runDraw] at hr
    | cons h hs =>
      simp only [runDraw] at hr
      split at hr
      · cases hr
      · rename_i hw
        split at hr
        · rename_i hk
          split at hr
          · rename_i hfree
            split at hr
            · rename_i h0 hs0
              split at hr
              · rename_i v h1 hst
                exact key true v _ _ ⟨hw, h, hs, rfl, fun e => (by cases e), fun _ => .inl ⟨hk, rfl, ⟨h0, h1, hs0, hst⟩, hfree, rfl⟩⟩ hr
              · cases hr
            · cases hr
          · cases hr
        · rename_i hk
          split at hr
          · rename_i v h1 hst
            exact key true v _ _ ⟨hw, h, hs, rfl, fun e => (by cases e), fun _ => .inr (.inl ⟨hk, rfl, h1, hst, rfl⟩)⟩ hr
          · cases hr
        · rename_i hk
          split at hr
          · rename_i h0 hs0
            split at hr
            · rename_i v h1 L1 hst
              refine key true v _ _ ⟨hw, h, hs, rfl, fun e => (by cases e), fun _ => .inr (.inr ?_)⟩ hr
              unfold createOp at hst
              split at hst
              · rename_i id hid
                split at hst
                · rename_i h3
                  cases hst
                  refine .inr ⟨hk, [id], h1, by rw [poke_oneOp hid]; exact h3, fun i hi hne => poke_other hid h3 hi (fun e => hne (by rw [e]; exact List.mem_singleton.2 rfl)), fun i hi => ?_, rfl, rfl⟩
                  rw [List.mem_singleton.1 hi]
                  exact poke_unread hid
                · cases hst
              · split at hst
                · rename_i h3; cases hst; exact .inl ⟨hk, rfl, h0, h1, hs0, h3, rfl⟩
                · unfold pokeCall at hst
                  split at hst
                  · split at hst
                    · rename_i h3
                      split at hst
                      · rename_i hall
                        cases hst
                        exact .inr ⟨hk, _, h1, h3, fun i hi hne => changed_sound hi hne, fun i hi => List.all_eq_true.1 hall.2 i hi, rfl, rfl⟩
                      · cases hst
                    · cases hst
                  · cases hst
            · cases hr
          · cases hr
      · rename_i hw
        exact key false undefD _ _ ⟨hw, h, hs, rfl, fun _ => ⟨rfl, rfl, rfl⟩, fun e => (by cases e)⟩ hr

/-! ## its heaps -/

def headH (hs : List Heap) : Heap := hs.headD default

section
variable {call : CallF} {ds : List DOper} {env : Env} {h : Heap} {E : Nat → Env} {HS : Nat → List Heap} {LS : Nat → DLog} {V : Nat → DV} {B : Nat → Bool}

/-- How many of the first p turn the heap. -/
def rankD (ds : List DOper) (p : Nat) : Nat := ((ds.take p).filter fun x => x.kind != .read).length

theorem rankD_succ {p : Nat} {d : DOper} (hd : ds[p]? = some d) : rankD ds (p + 1) = rankD ds p + (if d.kind = .read then 0 else 1) := by
  obtain ⟨hlt, he⟩ := List.getElem?_eq_some_iff.1 hd
  unfold rankD
  rw [List.take_succ_eq_append_getElem hlt, List.filter_append, List.length_append, he]
  cases hk : d.kind <;> simp [hk]

theorem rankD_mono {p q : Nat} (hpq : p ≤ q) : rankD ds p ≤ rankD ds q := by
  unfold rankD
  have : (ds.take p).filter (fun x => x.kind != .read) <+: (ds.take q).filter (fun x => x.kind != .read) := (List.take_prefix_take_left hpq).filter _
  exact this.length_le

theorem Trace.shape (T : Trace call ds env [h] .start E HS LS V B) : ∀ p, p ≤ ds.length → HS p ≠ [] ∧ (HS p).length = rankD ds p + 1 := by
  intro p
  induction p with
  | zero => intro _; rw [T.H0]; simp [rankD]
  | succ p ih =>
    intro hp
    obtain ⟨d, hd⟩ : ∃ d, ds[p]? = some d := ⟨ds[p]'(by omega), List.getElem?_eq_getElem (by omega)⟩
    obtain ⟨i1, i2⟩ := ih (by omega)
    obtain ⟨⟨hw, g, gs, hg, hf, ht⟩, _⟩ := T.step p d hd
    rw [rankD_succ hd]
    cases hb : B p with
    | false =>
      obtain ⟨_, e, _⟩ := hf hb
      rw [e]
      split
      · exact ⟨i1, by omega⟩
      · exact ⟨by simp, by simp [i2]⟩
    | true =>
      rcases ht hb with ⟨hk, e, _⟩ | ⟨hk, _, h1, _, e⟩ | ⟨hk, _, h0, h1, _, _, e⟩ | ⟨hk, id, h1, _, _, _, e, _⟩ <;> rw [e, hk]
      · exact ⟨i1, by simp [i2]⟩
      · exact ⟨by simp, by simp [i2]⟩
      · exact ⟨by simp, by simp [i2]⟩
      · exact ⟨by simp, by simp [i2]⟩

/-- What one step does to the newest heap. -/
theorem Trace.heap (T : Trace call ds env [h] .start E HS LS V B) {p : Nat} {d : DOper} (hd : ds[p]? = some d) :
    (d.kind = .read ∧ HS (p + 1) = HS p) ∨ (d.kind ≠ .read ∧ HS (p + 1) = headH (HS (p + 1)) :: HS p) := by
  obtain ⟨⟨hw, g, gs, hg, hf, ht⟩, _⟩ := T.step p d hd
  cases hb : B p with
  | false =>
    obtain ⟨_, e, _⟩ := hf hb
    split at e
    · rename_i hk; exact .inl ⟨hk, e⟩
    · rename_i hk; exact .inr ⟨hk, by rw [e]; simp [headH]⟩
  | true =>
    rcases ht hb with ⟨hk, e, _⟩ | ⟨hk, _, h1, _, e⟩ | ⟨hk, _, h0, h1, _, _, e⟩ | ⟨hk, id, h1, _, _, _, e, _⟩
    · exact .inl ⟨hk, e⟩
    · exact .inr ⟨by rw [hk]; simp, by rw [e]; simp [headH]⟩
    · exact .inr ⟨by rw [hk]; simp, by rw [e]; simp [headH]⟩
    · exact .inr ⟨by rw [hk]; simp, by rw [e]; simp [headH]⟩

theorem Trace.head (T : Trace call ds env [h] .start E HS LS V B) {p : Nat} (hp : p ≤ ds.length) : ∃ gs, HS p = headH (HS p) :: gs := by
  have := (T.shape p hp).1
  cases hh : HS p with
  | nil => exact absurd hh this
  | cons g gs => exact ⟨gs, by simp [headH]⟩

/-- A snapshot is the newest heap of an earlier position. -/
theorem Trace.snap (T : Trace call ds env [h] .start E HS LS V B) : ∀ p, p ≤ ds.length → ∀ s h0, snapAt (HS p) s = some h0 → ∃ m, m ≤ p ∧ h0 = headH (HS m) ∧ rankD ds m = s := by
  intro p
  induction p with
  | zero =>
    intro _ s h0 hs
    rw [T.H0] at hs
    unfold snapAt at hs
    split at hs
    · rename_i hlt
      simp only [List.length_singleton, Nat.lt_one_iff] at hlt
      subst hlt
      simp at hs
      exact ⟨0, Nat.le_refl _, by rw [T.H0]; exact hs.symm, rfl⟩
    · cases hs
  | succ p ih =>
    intro hp s h0 hs
    obtain ⟨d, hd⟩ : ∃ d, ds[p]? = some d := ⟨ds[p]'(by omega), List.getElem?_eq_getElem (by omega)⟩
    have hl := (T.shape p (by omega)).2
    rcases T.heap hd with ⟨hk, e⟩ | ⟨hk, e⟩
    · rw [e] at hs
      obtain ⟨m, h1, h2, h3⟩ := ih (by omega) s h0 hs
      exact ⟨m, by omega, h2, h3⟩
    · rw [e] at hs
      unfold snapAt at hs
      split at hs
      · rename_i hlt
        simp only [List.length_cons] at hlt hs
        by_cases hs' : s = (HS p).length
        · subst hs'
          simp only [Nat.add_sub_cancel, Nat.sub_self, List.getElem?_cons_zero, Option.some.injEq] at hs
          exact ⟨p + 1, Nat.le_refl _, hs.symm, by rw [rankD_succ hd, if_neg hk, hl]⟩
        · have : (HS p).length + 1 - 1 - s = ((HS p).length - 1 - s) + 1 := by omega
          rw [this, List.getElem?_cons_succ] at hs
          obtain ⟨m, h1, h2, h3⟩ := ih (by omega) s h0 (by unfold snapAt; rw [if_pos (by omega)]; exact hs)
          exact ⟨m, by omega, h2, h3⟩
      · cases hs

theorem Trace.keeps1 (T : Trace call ds env [h] .start E HS LS V B) (hc : CallKeeps call) (hl : h.lim ≤ h.n) : ∀ p, p ≤ ds.length → (headH (HS p)).lim ≤ (headH (HS p)).n ∧ ∀ m, m ≤ p → Keeps (headH (HS m)) (headH (HS p)) := by
  intro p
  induction p with
  | zero =>
    intro _
    refine ⟨by rw [T.H0]; exact hl, fun m hm => ?_⟩
    have : m = 0 := by omega
    subst this
    exact .refl _
  | succ p ih =>
    intro hp
    obtain ⟨d, hd⟩ : ∃ d, ds[p]? = some d := ⟨ds[p]'(by omega), List.getElem?_eq_getElem (by omega)⟩
    obtain ⟨i1, i2⟩ := ih (by omega)
    have one : Keeps (headH (HS p)) (headH (HS (p + 1))) := by
      obtain ⟨⟨hw, g, gs, hg, hf, ht⟩, _⟩ := T.step p d hd
      have hhd : headH (HS p) = g := by rw [hg]; rfl
      cases hb : B p with
      | false =>
        obtain ⟨_, e, _⟩ := hf hb
        rw [e]
        split
        · exact .refl _
        · rw [hhd]; exact .refl _
      | true =>
        rcases ht hb with ⟨hk, e, _⟩ | ⟨hk, _, h1, h2, e⟩ | ⟨hk, _, h0, h1, h2, h3, e⟩ | ⟨hk, id, h1, h3, _, _, e, _⟩
        rotate_right
        · rw [e, hhd]; exact oneOp_keeps hc (by rw [← hhd]; exact i1) h3
        · rw [e]; exact .refl _
        · rw [e, hhd]; exact oneOp_keeps hc (by rw [← hhd]; exact i1) h2
        · obtain ⟨m, a1, a2, _⟩ := T.snap p (by omega) _ _ h2
          rw [e, hhd]
          exact (heapOp_keeps hc (by rw [← hhd]; exact i1) (by rw [a2, ← hhd]; exact (i2 m a1).n) h3).1
    refine ⟨one.lim_le i1, fun m hm => ?_⟩
    by_cases e : m = p + 1
    · subst e; exact .refl _
    · exact (i2 m (by omega)).trans one

theorem Trace.keeps (T : Trace call ds env [h] .start E HS LS V B) (hc : CallKeeps call) (hl : h.lim ≤ h.n) {m p : Nat} (hm : m ≤ p) (hp : p ≤ ds.length) : Keeps (headH (HS m)) (headH (HS p)) := (T.keeps1 hc hl p hp).2 m hm

/-- The making of something, carried out. -/
theorem Trace.alloc (T : Trace call ds env [h] .start E HS LS V B) {p : Nat} {d : DOper} (hd : ds[p]? = some d) (ha : d.op.cls = .alloc) (hk : d.kind = .create) (hb : B p = true) :
    ∃ ety sz xs, made (E p) d.op = some (ety, sz, xs) ∧ V p = madeV (headH (HS p)).n d.op ∧ headH (HS (p + 1)) = (headH (HS p)).push (.arr ety sz xs (some xs.length)) := by
  obtain ⟨⟨hw, g, gs, hg, hf, ht⟩, _⟩ := T.step p d hd
  have hhd : headH (HS p) = g := by rw [hg]; rfl
  have hno : ∀ (c : CallF) (h : Heap), oneOp c d.op (E p) h = stepOp h (E p) d.op := fun c h => by
    rcases cls_made ha with ⟨ety, sz, z, e⟩ | ⟨ety, sz, z, len, parts, e⟩ <;> rw [e] <;> rfl
  rcases ht hb with ⟨hk', _⟩ | ⟨hk', _⟩ | ⟨_, _, h0, h1, h2, h3, e⟩ | ⟨_, id, h1, h2, _, _, e, _⟩
  · rw [hk] at hk'; cases hk'
  · rw [hk] at hk'; cases hk'
  · unfold heapOp at h3
    rw [hno] at h3
    split at h3
    · rename_i v h' h4
      simp only [Option.some.injEq, Prod.mk.injEq] at h3
      obtain ⟨ety, sz, xs, m1, m2, m3⟩ := stepOp_made ha h4
      rw [e, hhd]
      refine ⟨ety, sz, xs, m1, by rw [← h3.1, m2], ?_⟩
      show h1 = _
      rw [← h3.2, m3]
      rfl
    · cases h3
  · rw [hno] at h2
    obtain ⟨ety, sz, xs, m1, m2, m3⟩ := stepOp_made ha h2
    rw [e, hhd]
    exact ⟨ety, sz, xs, m1, m2, m3⟩

/-- The newest heap grows, where those that turn it make alone. -/
theorem Trace.grows (T : Trace call ds env [h] .start E HS LS V B) (hc : CallKeeps call) (hl : h.lim ≤ h.n) {m s : Nat} (hs : rankD ds m = s) : ∀ k, m ≤ k → k ≤ ds.length →
    (∀ (p : Nat) (d : DOper), m ≤ p → p < k → ds[p]? = some d → d.kind ≠ .read → d.op.cls = .alloc ∨ (d.kind = .create ∧ s ≤ d.snap)) →
    (∀ (p : Nat) (d : DOper), ds[p]? = some d → d.op.cls = .alloc → d.kind = .create) →
    ∀ id, id < (headH (HS m)).n → (∀ (p : Nat) (d : DOper), m ≤ p → p < k → ds[p]? = some d → d.kind = .create → ((LS p).rds.all fun x => !(Nat.beq x id)) = true → ((HS p).length - 1, id) ∈ (LS (p + 1)).pks → False) →
    (headH (HS k)).get id = (headH (HS m)).get id := by
  intro k
  induction k with
  | zero => intro hm _ _ _ id _ _; have : m = 0 := by omega
            subst this; rfl
  | succ k ih =>
    intro hm hk hw hal id hid hnp
    by_cases e : m = k + 1
    · subst e; rfl
    obtain ⟨d, hd⟩ : ∃ d, ds[k]? = some d := ⟨ds[k]'(by omega), List.getElem?_eq_getElem (by omega)⟩
    have i0 := ih (by omega) (by omega) (fun p d a1 a2 => hw p d a1 (by omega)) hal id hid (fun p d a1 a2 => hnp p d a1 (by omega))
    rw [← i0]
    have hn : id < (headH (HS k)).n := Nat.lt_of_lt_of_le hid (T.keeps hc hl (by omega : m ≤ k) (by omega)).n
    obtain ⟨⟨hwd, g, gs, hg, hf, ht⟩, _⟩ := T.step k d hd
    have hhd : headH (HS k) = g := by rw [hg]; rfl
    cases hb : B k with
    | false =>
      obtain ⟨_, e, _⟩ := hf hb
      rw [e]
      split
      · rfl
      · rw [hhd]; rfl
    | true =>
      by_cases hk0 : d.kind = .read
      · rcases ht hb with ⟨_, e, _⟩ | ⟨hk', _⟩ | ⟨hk', _⟩ | ⟨hk', _⟩
        · rw [e]
        · rw [hk0] at hk'; cases hk'
        · rw [hk0] at hk'; cases hk'
        · rw [hk0] at hk'; cases hk'
      · rcases hw k d (by omega) (by omega) hd hk0 with ha | ⟨hcr, hsn⟩
        · have hcr := hal k d hd ha
          obtain ⟨ety, sz, xs, _, _, e⟩ := T.alloc hd ha hcr hb
          rw [e]
          exact get_push_old hn
        · rcases ht hb with ⟨hk', _⟩ | ⟨hk', _⟩ | ⟨_, _, h0, h1, h2, h3, e⟩ | ⟨_, ids, h1, _, h3, h4, e, eL⟩
          rotate_right
          · have hne : id ∉ ids := fun e' => by
              refine hnp k d (by omega) (by omega) hd hcr (h4 id e') ?_
              rw [eL, hg]
              exact List.mem_append_left _ (List.mem_map.2 ⟨id, e', rfl⟩)
            rw [e, hhd]
            exact h3 id (by rw [← hhd]; exact hn) hne
          · rw [hcr] at hk'; cases hk'
          · rw [hcr] at hk'; cases hk'
          · obtain ⟨m', a1, a2, a3⟩ := T.snap k (by omega) _ _ h2
            rw [e, hhd]
            have hkk := T.keeps1 hc hl k (by omega)
            have hmm : (headH (HS m)).n ≤ h0.n := by
              rw [a2]
              by_cases hle : m ≤ m'
              · exact (T.keeps hc hl hle (by omega)).n
              · have h4 : rankD ds m' ≤ rankD ds m := rankD_mono (by omega)
                have h5 : rankD ds m' = rankD ds m := by omega
                have same : ∀ q, m' ≤ q → q ≤ m → HS q = HS m' := by
                  intro q
                  induction q with
                  | zero => intro hq _; have : m' = 0 := by omega
                            subst this; rfl
                  | succ q iq =>
                    intro hq1 hq2
                    by_cases eq : m' = q + 1
                    · subst eq; rfl
                    obtain ⟨dq, hdq⟩ : ∃ d, ds[q]? = some d := ⟨ds[q]'(by omega), List.getElem?_eq_getElem (by omega)⟩
                    have r1 : rankD ds m' ≤ rankD ds q := rankD_mono (by omega)
                    have r2 : rankD ds (q + 1) ≤ rankD ds m := rankD_mono (by omega)
                    rw [rankD_succ hdq] at r2
                    rcases T.heap hdq with ⟨_, e⟩ | ⟨hne, _⟩
                    · rw [e]; exact iq (by omega) (by omega)
                    · rw [if_neg hne] at r2; omega
                rw [same m (by omega) (Nat.le_refl _)]
                exact Nat.le_refl _
            exact (heapOp_keeps hc (by rw [← hhd]; exact hkk.1) (by rw [a2, ← hhd]; exact (hkk.2 m' a1).n) h3).2 id (Nat.lt_of_lt_of_le hid hmm)

/-- What was written down stays. -/
theorem Trace.logs (T : Trace call ds env [h] .start E HS LS V B) {m : Nat} : ∀ p, m ≤ p → p ≤ ds.length → (∀ x, x ∈ (LS m).rds → x ∈ (LS p).rds) ∧ (∀ x, x ∈ (LS m).pks → x ∈ (LS p).pks) := by
  intro p
  induction p with
  | zero => intro hm _; have : m = 0 := by omega
            subst this; exact ⟨fun _ h => h, fun _ h => h⟩
  | succ p ih =>
    intro hm hp
    by_cases e : m = p + 1
    · subst e; exact ⟨fun _ h => h, fun _ h => h⟩
    obtain ⟨i1, i2⟩ := ih (by omega) (by omega)
    obtain ⟨d, hd⟩ : ∃ d, ds[p]? = some d := ⟨ds[p]'(by omega), List.getElem?_eq_getElem (by omega)⟩
    obtain ⟨⟨hw, g, gs, hg, hf, ht⟩, _⟩ := T.step p d hd
    cases hb : B p with
    | false =>
      obtain ⟨_, _, e⟩ := hf hb
      rw [e]; exact ⟨i1, i2⟩
    | true =>
      rcases ht hb with ⟨_, _, _, _, e⟩ | ⟨_, e, _⟩ | ⟨_, e, _⟩ | ⟨_, ids, h1, _, _, _, _, e⟩
      · rw [e]
        unfold DLog.read
        split
        · exact ⟨fun x hx => List.mem_cons_of_mem _ (i1 x hx), i2⟩
        · exact ⟨i1, i2⟩
      · rw [e]; exact ⟨i1, i2⟩
      · rw [e]; exact ⟨i1, i2⟩
      · rw [e]; exact ⟨i1, fun x hx => List.mem_append_right _ (i2 x hx)⟩

/-! ## its temporaries -/

theorem put_length (env : Env) (d : Option Nat) (v : DV) : (put env d v).length = env.length := by cases d <;> simp [put]

theorem Trace.len (T : Trace call ds env [h] .start E HS LS V B) : ∀ p, p ≤ ds.length → (E p).length = env.length := by
  intro p
  induction p with
  | zero => intro _; rw [T.E0]
  | succ p ih =>
    intro hp
    obtain ⟨d, hd⟩ : ∃ d, ds[p]? = some d := ⟨ds[p]'(by omega), List.getElem?_eq_getElem (by omega)⟩
    rw [(T.step p d hd).2, put_length, ih (by omega)]

theorem Trace.old (T : Trace call ds env [h] .start E HS LS V B) {t : Nat} : ∀ q, q ≤ ds.length → (∀ (p : Nat) (d : DOper), p < q → ds[p]? = some d → d.dst ≠ some t) → (E q)[t]? = env[t]? := by
  intro q
  induction q with
  | zero => intro _ _; rw [T.E0]
  | succ q ih =>
    intro hq hno
    obtain ⟨d, hd⟩ : ∃ d, ds[q]? = some d := ⟨ds[q]'(by omega), List.getElem?_eq_getElem (by omega)⟩
    rw [(T.step q d hd).2]
    have h1 := ih (by omega) (fun p d hp => hno p d (by omega))
    have h2 := hno q d (by omega) hd
    unfold put
    split
    · rename_i t' ht'
      rw [List.getElem?_set, if_neg (fun e : t' = t => h2 (by rw [ht', e])), h1]
    · exact h1

theorem Trace.new (T : Trace call ds env [h] .start E HS LS V B) {t p : Nat} {d : DOper} (hd : ds[p]? = some d) (ht : d.dst = some t) (hlt : t < env.length) : ∀ q, p < q → q ≤ ds.length →
    (∀ (p' : Nat) (d' : DOper), p < p' → p' < q → ds[p']? = some d' → d'.dst ≠ some t) → (E q)[t]? = some (V p) := by
  intro q
  induction q with
  | zero => intro h0; omega
  | succ q ih =>
    intro hpq hq hno
    obtain ⟨d', hd'⟩ : ∃ d, ds[q]? = some d := ⟨ds[q]'(by omega), List.getElem?_eq_getElem (by omega)⟩
    rw [(T.step q d' hd').2]
    have hl := T.len q (by omega)
    by_cases e : p = q
    · subst e
      have : d' = d := Option.some.inj (hd'.symm.trans hd)
      subst this
      simp only [put, ht, List.getElem?_set]
      rw [if_pos trivial, if_pos (by omega)]
    · have h1 := ih (by omega) (by omega) (fun p' d' a1 a2 => hno p' d' a1 (by omega))
      have h2 := hno q d' (by omega) (by omega) hd'
      unfold put
      split
      · rename_i t' ht'
        rw [List.getElem?_set, if_neg (fun e : t' = t => h2 (by rw [ht', e])), h1]
      · exact h1

end
end Go.Dm
