/-
Part 22 of "Dm": a region with an open order: what holds at each of its states.
-/
import Derived.Test.YtkhmbjajaibinaaGreatDoorDm21
namespace Go.Dm

def Ctx.cut (c : Ctx) (N : Nat) : Ctx := { c with ρ := fun id => if id < N then c.ρ id else none }

theorem cut_lt {c : Ctx} {N id : Nat} (h : id < N) : (c.cut N).ρ id = c.ρ id := by simp [Ctx.cut, h]
theorem cut_some {c : Ctx} {N id : Nat} {p : Nat × Nat} (h : (c.cut N).ρ id = some p) : id < N ∧ c.ρ id = some p := by
  simp only [Ctx.cut] at h
  split at h
  · exact ⟨by assumption, h⟩
  · cases h

/-- Only the places grow. -/
theorem le_rho {c : Ctx} {ρ ρ' : Nat → Option (Nat × Nat)} (h : ∀ id p, ρ id = some p → ρ' id = some p) : CtxLe { c with ρ := ρ } { c with ρ := ρ' } :=
  ⟨h, Nat.le_refl _, fun _ _ _ => rfl, fun _ h => .inl h, fun _ _ _ h => h, fun _ h => h, fun _ _ h => ⟨h, rfl⟩, .refl _, rfl⟩

theorem cut_le {c : Ctx} {N M : Nat} (h : N ≤ M) : CtxLe (c.cut N) (c.cut M) :=
  le_rho fun id p hp => by
    split at hp
    · rename_i hlt; rw [if_pos (by omega)]; exact hp
    · cases hp

theorem cut_self {h : Heap} {c : Ctx} (hR : Rel h c) : c.cut h.n = c := by
  have : (fun id => if id < h.n then c.ρ id else none) = c.ρ := by
    funext id
    split
    · rfl
    · rename_i hn
      cases hr : c.ρ id with
      | none => rfl
      | some p => exact absurd (hR.dom id (by rw [hr]; simp)) hn
  cases c
  simp only [Ctx.cut] at *
  rw [this]

theorem Rel.setLim {h : Heap} {c : Ctx} (hR : Rel h c) {l : Nat} (hl : l ≤ h.n) : Rel { h with lim := l } c := ⟨hR.len, hl, hR.dom, hR.obj, hR.inj, hR.own, hR.notX, hR.old, hR.pend, hR.glob⟩

theorem ownB_dead {h : Heap} {c : Ctx} {b : Nat} : ownB (h.push .dead) (c.cut (h.n + 1)).ρ b ↔ ownB h (c.cut h.n).ρ b := by
  constructor
  · rintro ⟨id, o, x, hg, ha, hr⟩
    rw [get_push] at hg
    split at hg
    · cases hg; simp [alive] at ha
    · have := get_lt hg
      exact ⟨id, o, x, hg, ha, by rw [cut_lt this]; rw [cut_lt (by omega)] at hr; exact hr⟩
  · rintro ⟨id, o, x, hg, ha, hr⟩
    have := get_lt hg
    exact ⟨id, o, x, by rw [get_push_old this]; exact hg, ha, by rw [cut_lt (by omega)]; rw [cut_lt this] at hr; exact hr⟩

/-- A name more for nothing. -/
theorem Rel.pad1 {h : Heap} {c : Ctx} (hR : Rel h (c.cut h.n)) : Rel (h.push .dead) (c.cut (h.n + 1)) := by
  refine ⟨len_push hR.len, Nat.le_succ_of_le hR.lim, fun id hid => ?_, fun id o hg => ?_, fun i j oi oj b x y hi hj hai haj hri hrj => ?_, fun b => ?_, hR.notX, hR.old, fun b hb => ⟨(hR.pend b hb).1, fun ho => (hR.pend b hb).2 (ownB_dead.1 ho)⟩, hR.glob.mono (cut_le (by omega))⟩
  · cases hr : (c.cut (h.n + 1)).ρ id with
    | none => exact absurd hr hid
    | some p => exact (cut_some hr).1
  · rw [get_push] at hg
    split at hg
    · cases hg; trivial
    · exact (hR.obj id o hg).mono (cut_le (by omega)) (fun _ _ _ _ => rfl)
  · have old : ∀ i oi, (h.push .dead).get i = some oi → alive oi = true → h.get i = some oi := by
      intro i oi hi hai
      rw [get_push] at hi
      split at hi
      · cases hi; simp [alive] at hai
      · exact hi
    have gi := old i oi hi hai
    have gj := old j oj hj haj
    have li := get_lt gi
    have lj := get_lt gj
    rw [cut_lt (by omega)] at hri hrj
    exact hR.inj i j oi oj b x y gi gj hai haj (by rw [cut_lt li]; exact hri) (by rw [cut_lt lj]; exact hrj)
  · have := hR.own b
    show c.O b ↔ _ ∨ c.E b
    rw [ownB_dead]
    exact this

theorem Rel.pad {h : Heap} {c : Ctx} (hR : Rel h (c.cut h.n)) : ∀ j, ∃ h2 : Heap, Rel h2 (c.cut (h.n + j)) ∧ h2.n = h.n + j ∧ ∀ id, id < h.n → h2.get id = h.get id := by
  intro j
  induction j with
  | zero => exact ⟨h, hR, rfl, fun _ _ => rfl⟩
  | succ j ih =>
    obtain ⟨h2, k1, k2, k3⟩ := ih
    refine ⟨h2.push .dead, ?_, by rw [n_push, k2]; omega, fun id hid => by rw [get_push_old (by omega)]; exact k3 id hid⟩
    have := Rel.pad1 (c := c) (h := h2) (by rw [k2]; exact k1)
    rw [k2] at this
    exact this

/-- What was made, as it was made. -/
def FreshR (c : Ctx) (b ety sz : Nat) (xs : List DV) : Prop := ∃ cur, 0 < sz ∧ cur.size = xs.length * sz ∧ OneRow cur ∧ ElemsR c xs sz cur 0 ∧ c.w.heap[b]? = some (.cells cur ety (0, 0))

theorem FreshR.mono {c c' : Ctx} {b ety sz : Nat} {xs : List DV} (h : FreshR c b ety sz xs) (hle : CtxLe c c') (hb : c'.w.heap[b]? = c.w.heap[b]?) : FreshR c' b ety sz xs := by
  obtain ⟨cur, h1, h2, h3, h4, h5⟩ := h
  exact ⟨cur, h1, h2, h3, fun i hi => ⟨(h4 i hi).1, fun j hj => by
    obtain ⟨v, a1, a2, a3⟩ := (h4 i hi).2 j hj
    exact ⟨v, a1, a2, a3.mono hle⟩⟩, hb.trans h5⟩

theorem compOp_alloc {P : Program} {o : Oper} {ety sz : Nat} {z : DV} (hc : compOp P o = some (.alloc ety sz z)) : o.op = .alloc ety ∧ ∃ bytes, elemOf' P ety = some (sz, bytes, z) := by
  unfold compOp at hc
  split at hc
  case h_4 e ho =>
    split at hc
    · rename_i sz' b z' he; cases hc; exact ⟨ho, b, he⟩
    · cases hc
  all_goals ((repeat' split at hc) <;> first | (cases hc; done) | (simp at hc; done))

theorem compOp_buildSlice {P : Program} {o : Oper} {e sz len : Nat} {z : DV} {ps : List (Nat × Opd)} (hc : compOp P o = some (.buildSlice e sz z len ps)) : ∃ t parts bytes, o.op = .buildSlice t len parts ∧ P.underlying t = some (.slice e) ∧ elemOf' P e = some (sz, bytes, z) ∧
    parts.toList.mapM (fun (x : Nat × Operand) => (opd x.2).map fun y => (x.1, y)) = some ps ∧ len * sz ≤ 16777216 := by
  unfold compOp at hc
  split at hc
  case h_7 t n parts ho =>
    split at hc
    · rename_i e' ht
      split at hc
      · rename_i sz' b z' he
        split at hc
        · rename_i ps' hps
          split at hc
          · rename_i hsm
            cases hc
            exact ⟨t, parts, b, ho, ht, he, hps, hsm⟩
          · cases hc
        · cases hc
      · cases hc
    · cases hc
  all_goals ((repeat' split at hc) <;> first | (cases hc; done) | (simp at hc; done))

/-- The making of something: the run. -/
theorem made_run {P : Program} {o : Oper} {d : DOp} (hc : compOp P o = some d) (ha : d.cls = .alloc) {c : Ctx} {env : Env} {a : Act} (hE : EnvR c env a) {ety sz : Nat} {xs : List DV} (hm : made env d = some (ety, sz, xs)) :
    ∃ w' cur val, (execOp a.eval o).run P c.w = .ok (.value val) w' ∧ w'.heap.size = c.w.heap.size + 1 ∧ (∀ k, k < c.w.heap.size → w'.heap[k]? = c.w.heap[k]?) ∧ Quiet c.w w' ∧
      w'.heap[c.w.heap.size]? = some (.cells cur ety (0, 0)) ∧ 0 < sz ∧ cur.size = xs.length * sz ∧ OneRow cur ∧ ElemsR c xs sz cur 0 ∧
      ∀ (c' : Ctx) (id : Nat), c'.ρ id = some (c.w.heap.size, 0) → c'.w.shape? c.w.heap.size = some (ety, xs.length * sz) → VR c' (madeV id d) val := by
  rcases cls_made ha with ⟨ety', sz', z, rfl⟩ | ⟨ety', sz', z, len, ps, rfl⟩
  · simp only [made, Option.some.injEq, Prod.mk.injEq] at hm
    obtain ⟨rfl, rfl, rfl⟩ := hm
    obtain ⟨ho, bytes, he⟩ := compOp_alloc hc
    obtain ⟨i, z0, hi, e1, e2, hz, hzd, hsz, hst⟩ := elem_facts he
    have hel := elemsR_one (c := c) hst (constD_VR hzd c)
    have hcells := (storable_cells (c := c) hst (constD_VR hzd c)).2.1
    refine ⟨{ c.w with heap := c.w.heap.push (.cells z0.cells ety') }, z0.cells, .pointer (some ⟨c.w.heap.size, 0, none⟩), ?_, by simp, fun k hk => by rw [Array.getElem?_push]; simp; omega, .push (ob := .cells z0.cells ety') rfl rfl rfl rfl, by simp, hsz, by simp [hcells], oneRow_full (m := 1) hel hsz (by omega) rfl, hel, fun c' id h1 _ => ?_⟩
    · simp [execOp, ho, Instr.alloc, zeroValue, typeInfo, hi, hz, newVar, newRow]
    · have := VR.ptr (c := c') (id := id) (sz := sz') (idx := 0) (off := 0) (b := c.w.heap.size) (base := 0) h1
      simpa [madeV] using this
  · simp only [made, Option.map_eq_some_iff] at hm
    obtain ⟨xs', hxs, hm⟩ := hm
    simp only [Prod.mk.injEq] at hm
    obtain ⟨rfl, rfl, rfl⟩ := hm
    obtain ⟨t, parts, bytes, ho, ht, he, hp, hsmall⟩ := compOp_buildSlice hc
    obtain ⟨w', cur, r1, r2, r3, r4, r5, r6, r7⟩ := run_built (P := P) (o := o) (c := c) (env := env) (a := a) ho ht he hp hsmall hE hxs
    refine ⟨w', cur, .slice (some ⟨c.w.heap.size, 0, none⟩) len len, r1, by rw [r2]; simp, fun k hk => by rw [r2, Array.getElem?_push]; simp; omega, .push (ob := .cells cur ety') r2 rfl r3.1 r3.2, by rw [r2]; simp, r4, r5, r6, r7, fun c' id h1 h2 => ?_⟩
    have hlen : xs'.length = len := by have := fillElems_length _ hxs; rw [List.length_replicate] at this; exact this
    exact .sl h1 h2 (by rw [hlen]; simp) (Nat.le_refl _) (.inl (by simp))

/-! ## the state of a region -/

def Li (listed : Array Bool) (i : Nat) : Prop := listed.getD i false = true

section
variable (ops : List Oper) (dis : List (Nat × DOper)) (EN : Nat → Env) (HS : Nat → List Heap) (V : Nat → DV) (B : Nat → Bool) (c : Ctx) (env : Env)

/-- Temporaries. -/
structure InvE (listed : Array Bool) (a : Act) (ĉ : Ctx) (m0 : Nat) : Prop where
  size : listed.size = ops.length
  closed : ∀ j o, ops[j]? = some o → Li listed j → ∀ e, e ∈ o.after.toList → Region.binds .any e = true → Li listed e.on
  asize : a.tmps.size = env.length
  defers : a.defers = []
  vals : ∀ (p : Nat) (x : Nat × DOper) (t : Nat), dis[p]? = some x → Li listed x.1 → x.2.dst = some t → t < env.length → VR (ĉ.cut (max (headH (HS (p + 1))).n m0)) (V p) (a.tmps.getD t Go.undef)
  olds : ∀ t, (∀ (p : Nat) (x : Nat × DOper), dis[p]? = some x → Li listed x.1 → x.2.dst ≠ some t) → VR (ĉ.cut (max (headH (HS 0)).n m0)) ((env[t]?).getD .unk) (a.tmps.getD t Go.undef)

/-- Memory. -/
structure InvM (listed : Array Bool) (k : Nat) (ĉ : Ctx) : Prop where
  k_le : k ≤ dis.length
  front : ∀ (p : Nat) (x : Nat × DOper), p < k → dis[p]? = some x → x.2.kind ≠ .read → Li listed x.1
  rel : Rel (headH (HS k)) (ĉ.cut (headH (HS k)).n)
  le : CtxLe c (ĉ.cut (headH (HS k)).n)
  X : ĉ.X = c.X
  E : ∀ b, ĉ.E b → c.E b ∨ ∃ id, (headH (HS k)).n ≤ id ∧ ĉ.ρ id = some (b, 0)
  cE : ∀ b, c.E b → ĉ.E b
  dom : ∀ id b x, (headH (HS k)).n ≤ id → ĉ.ρ id = some (b, x) → ĉ.E b ∧ ¬ c.E b ∧ ∃ (p : Nat) (y : Nat × DOper), k ≤ p ∧ dis[p]? = some y ∧ Li listed y.1 ∧ y.2.kind ≠ .read ∧ B p = true ∧ id = (headH (HS p)).n
  pend : ∀ (p : Nat) (x : Nat × DOper), k ≤ p → dis[p]? = some x → x.2.kind ≠ .read → Li listed x.1 → x.2.op.cls = .alloc ∧
    (B p = true → ∃ ety sz xs b, made (EN p) x.2.op = some (ety, sz, xs) ∧ ĉ.ρ (headH (HS p)).n = some (b, 0) ∧ FreshR (ĉ.cut (headH (HS p)).n) b ety sz xs)
  inj : ∀ id id' b, (headH (HS k)).n ≤ id → (headH (HS k)).n ≤ id' → ĉ.ρ id = some (b, 0) → ĉ.ρ id' = some (b, 0) → id = id'

end

section
variable {P : Program} {call : CallF} {ops : List Oper} {dis : List (Nat × DOper)} {bs : List Nat} {E : Nat → Env} {HS : Nat → List Heap} {LS : Nat → DLog} {V : Nat → DV} {B : Nat → Bool} {c ĉ : Ctx} {env : Env} {h : Heap}
  {listed : Array Bool} {a : Act} {k m0 : Nat}

theorem Li_lt {i : Nat} (hl : Li listed i) : i < listed.size := by
  rcases Nat.lt_or_ge i listed.size with h | h
  · exact h
  · simp [Li, h] at hl

theorem Li_set {i j : Nat} (hj : j < listed.size) : Li (listed.setIfInBounds j true) i ↔ Li listed i ∨ i = j := by
  unfold Li
  by_cases e : i = j
  · subst e; simp [hj]
  · have : (listed.setIfInBounds j true).getD i false = listed.getD i false := getD_set_ne false (Ne.symm e)
    rw [this]; simp [e]

theorem sure_listed (F : Fit P ops dis bs) (I : InvE ops dis HS V env listed a ĉ m0) : ∀ j, Li listed j → ∀ i, i < ops.length → bitAt bs j i = true → Li listed i := by
  intro j
  induction j using Nat.strongRecOn with
  | _ j ih =>
    intro hj i hi hb
    have hlt : j < ops.length := by rw [← I.size]; exact Li_lt hj
    obtain ⟨e, h1, h2, h3⟩ := F.clos j ops[j] i (List.getElem?_eq_getElem hlt) hi hb
    have h4 := I.closed j ops[j] (List.getElem?_eq_getElem hlt) hj e h1 h2
    rcases h3 with h3 | h3
    · rw [← h3]; exact h4
    · exact ih e.on (F.edge j ops[j] e (List.getElem?_eq_getElem hlt) h1 h2).2 h4 i hi h3

/-- One that may come up now. -/
structure Up (ops : List Oper) (dis : List (Nat × DOper)) (listed : Array Bool) (q : Nat) (x : Nat × DOper) (o : Oper) : Prop where
  hx : dis[q]? = some x
  ho : ops[x.1]? = some o
  not : ¬ Li listed x.1
  all : ∀ e, e ∈ o.after.toList → Region.binds .any e = true → Li listed e.on

theorem ready_sure (F : Fit P ops dis bs) (I : InvE ops dis HS V env listed a ĉ m0) {q : Nat} {x : Nat × DOper} {o : Oper} (U : Up ops dis listed q x o) {i : Nat} (hi : i < ops.length) (hb : bitAt bs x.1 i = true) : Li listed i := by
  obtain ⟨e, h1, h2, h3⟩ := F.clos x.1 o i U.ho hi hb
  rcases h3 with h3 | h3
  · rw [← h3]; exact U.all e h1 h2
  · exact sure_listed F I e.on (U.all e h1 h2) i hi h3

theorem fit_lt (F : Fit P ops dis bs) {p : Nat} {x : Nat × DOper} (hx : dis[p]? = some x) : x.1 < ops.length := by
  obtain ⟨o, _, _, ho, _⟩ := F.comp p x hx
  exact (List.getElem?_eq_some_iff.1 ho).1

theorem fit_inj (F : Fit P ops dis bs) {p q : Nat} {x y : Nat × DOper} (hx : dis[p]? = some x) (hy : dis[q]? = some y) (he : x.1 = y.1) : p = q := by
  rcases Nat.lt_trichotomy p q with h | h | h
  · exact absurd he (F.pair p q x y h hx hy).1
  · exact h
  · exact absurd he.symm (F.pair q p y x h hy hx).1

theorem fit_dst (F : Fit P ops dis bs) {p q : Nat} {x y : Nat × DOper} (hpq : p < q) (hx : dis[p]? = some x) (hy : dis[q]? = some y) {t : Nat} (ht : x.2.dst = some t) : y.2.dst ≠ some t := by
  have h := (F.pair p q x y hpq hx hy).2.2
  simp only [pairOk, Bool.and_eq_true] at h
  have h2 := h.1.1.2
  intro e
  simp [ht, e] at h2

theorem fit_free (F : Fit P ops dis bs) {p q : Nat} {x y : Nat × DOper} (hpq : p < q) (hx : dis[p]? = some x) (hy : dis[q]? = some y) (hb : bitAt bs y.1 x.1 = false) : freeP x.2 y.2 = true := by
  have h := (F.pair p q x y hpq hx hy).2.2
  simp only [pairOk, Bool.and_eq_true, hb, Bool.false_or] at h
  exact h.1.1.1

theorem free_clash {x y : DOper} (h : freeP x y = true) : clash x y = false := by
  simp only [freeP, Bool.and_eq_true, Bool.not_eq_true'] at h
  exact h.1

theorem map_get {p : Nat} {x : Nat × DOper} (hx : dis[p]? = some x) : (dis.map (·.2))[p]? = some x.2 := by simp [hx]

theorem get_map {p : Nat} {d : DOper} (hd : (dis.map (·.2))[p]? = some d) : ∃ x, dis[p]? = some x ∧ x.2 = d := by
  simp only [List.getElem?_map, Option.map_eq_some_iff] at hd
  exact hd

/-- What it reads of its temporaries is what our own order has there. -/
theorem vals_at (F : Fit P ops dis bs) (T : Trace call (dis.map (·.2)) env [h] .start E HS LS V B) (hc : CallKeeps call) (hl : h.lim ≤ h.n) (I : InvE ops dis HS V env listed a ĉ m0) {q : Nat} {x : Nat × DOper} {o : Oper} (U : Up ops dis listed q x o)
    {t : Nat} (ht : t ∈ x.2.reads) : VR (ĉ.cut (max (headH (HS q)).n m0)) (((E q)[t]?).getD .unk) (a.tmps.getD t Go.undef) := by
  have hq : q < dis.length := (List.getElem?_eq_some_iff.1 U.hx).1
  have hq' : q ≤ (dis.map (·.2)).length := by simp; omega
  by_cases hw : ∃ (p : Nat) (y : Nat × DOper), p < q ∧ dis[p]? = some y ∧ y.2.dst = some t
  · obtain ⟨p, y, hp, hy, hd⟩ := hw
    have hb : bitAt bs x.1 y.1 = true := by
      cases hb : bitAt bs x.1 y.1 with
      | true => rfl
      | false =>
        have h1 := free_clash (fit_free F hp hy U.hx hb)
        simp only [clash, hd, Bool.or_eq_false_iff] at h1
        have h2 := h1.1.1
        rw [List.contains_eq_mem] at h2
        simp [ht] at h2
    have hly := ready_sure F I U (fit_lt F hy) hb
    by_cases hlt : t < env.length
    · rw [T.new (map_get hy) hd hlt q hp hq' (fun p' d' a1 a2 hd' => by
        obtain ⟨y', e1, e2⟩ := get_map hd'
        subst e2
        exact fit_dst F a1 hy e1 hd)]
      have hn := (T.keeps hc hl (by omega : p + 1 ≤ q) hq').n
      exact (I.vals p y t hy hly hd hlt).mono (cut_le (by omega))
    · rw [List.getElem?_eq_none (by rw [T.len q hq']; omega)]
      exact .unk _
  · rw [T.old q hq' (fun p d hp hd e => by
      obtain ⟨y, e1, e2⟩ := get_map hd
      subst e2
      exact hw ⟨p, y, hp, e1, e⟩)]
    have hn := (T.keeps hc hl (Nat.zero_le q) hq').n
    refine (I.olds t fun p y hy hly hd => ?_).mono (cut_le (by omega))
    rcases Nat.lt_trichotomy p q with hp | hp | hp
    · exact hw ⟨p, y, hp, hy, hd⟩
    · subst hp
      have : y = x := Option.some.inj (hy.symm.trans U.hx)
      subst this
      exact U.not hly
    · cases hb : bitAt bs y.1 x.1 with
      | true => exact U.not (sure_listed F I y.1 hly x.1 (fit_lt F U.hx) hb)
      | false =>
        have h1 := free_clash (fit_free F hp U.hx hy hb)
        simp only [clash, hd, Bool.or_eq_false_iff] at h1
        have h2 := h1.2
        rw [List.contains_eq_mem] at h2
        simp [ht] at h2

/-- The temporaries that it reads; of the others nothing. -/
def maskE (env : Env) (ts : List Nat) : Env := (List.range env.length).map fun t => if t ∈ ts then (env[t]?).getD .unk else .unk

theorem maskE_agree {env : Env} {ts : List Nat} : Agree ts env (maskE env ts) := by
  intro t ht
  by_cases hlt : t < env.length
  · simp [maskE, hlt, ht]
  · simp [maskE, hlt]

theorem mask_env (F : Fit P ops dis bs) (T : Trace call (dis.map (·.2)) env [h] .start E HS LS V B) (hc : CallKeeps call) (hl : h.lim ≤ h.n) (I : InvE ops dis HS V env listed a ĉ m0) {q : Nat} {x : Nat × DOper} {o : Oper} (U : Up ops dis listed q x o) :
    EnvR (ĉ.cut (max (headH (HS q)).n m0)) (maskE (E q) x.2.reads) a := by
  have hq : q < dis.length := (List.getElem?_eq_some_iff.1 U.hx).1
  have hq' : q ≤ (dis.map (·.2)).length := by simp; omega
  refine ⟨by simp [maskE, T.len q hq', I.asize], I.defers, fun t ht => ?_⟩
  simp only [maskE, List.length_map, List.length_range] at ht
  simp only [maskE, List.getElem_map, List.getElem_range]
  split
  · rename_i hm; exact vals_at F T hc hl I U hm
  · exact .unk _

theorem wanted_mask {g : Option (Nat × Bool)} {env : Env} {ts : List Nat} (hg : ∀ t w, g = some (t, w) → t ∈ ts) : wantedD (maskE env ts) g = wantedD env g := by
  cases g with
  | none => rfl
  | some p =>
    obtain ⟨t, w⟩ := p
    have ht := hg t w rfl
    have : (maskE env ts)[t]? = env[t]? := by
      by_cases hlt : t < env.length
      · simp [maskE, hlt, ht]
      · simp [maskE, hlt]
    simp only [wantedD, this]

end
end Go.Dm
