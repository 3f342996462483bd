/-
Part 17 of "Dm": what an operation looks at, and what it leaves as it was.
-/
import Derived.Test.YtkhmbjajaibinaaGreatDoorDm16
namespace Go.Dm

/-! ## what it looks at in its temporaries -/

def Agree (ts : List Nat) (env env' : Env) : Prop := ∀ t, t ∈ ts → (env[t]?).getD .unk = (env'[t]?).getD .unk

theorem Agree.app {ts us : List Nat} {env env' : Env} (h : Agree (ts ++ us) env env') : Agree ts env env' ∧ Agree us env env' :=
  ⟨fun t ht => h t (List.mem_append_left _ ht), fun t ht => h t (List.mem_append_right _ ht)⟩

theorem Agree.opd {x : Opd} {env env' : Env} (h : Agree x.tmps env env') : x.eval env = x.eval env' := by
  cases x with
  | t n => exact h n (by simp [Opd.tmps])
  | c v => rfl

theorem Agree.flat {α : Type} {l : List α} {f : α → List Nat} {env env' : Env} (h : Agree (l.flatMap f) env env') : ∀ x, x ∈ l → Agree (f x) env env' :=
  fun x hx t ht => h t (List.mem_flatMap.2 ⟨x, hx, ht⟩)

theorem Agree.bound {x : Option Opd} {env env' : Env} (h : Agree (optTmps x) env env') (d l : Nat) : bound env x d l = bound env' x d l := by
  cases x with
  | none => rfl
  | some x => simp only [Dm.bound, Agree.opd (x := x) h]

theorem stepOp_congr {d : DOp} {h : Heap} {env env' : Env} (hd : Agree d.tmps env env') : stepOp h env d = stepOp h env' d := by
  cases d <;> simp only [DOp.tmps] at hd
  case makeMap => rfl
  case alloc => rfl
  case call => rfl
  case pick c a b =>
    obtain ⟨hd, h3⟩ := hd.app
    obtain ⟨h1, h2⟩ := hd.app
    simp only [stepOp, h1.opd, h2.opd, h3.opd]
  case mapUpdate q m k x =>
    obtain ⟨hd, h3⟩ := hd.app
    obtain ⟨h1, h2⟩ := hd.app
    simp only [stepOp, h1.opd, h2.opd, h3.opd]
  case build z parts =>
    have : parts.map (fun p => (p.1, p.2.1, p.2.2.eval env)) = parts.map (fun p => (p.1, p.2.1, p.2.2.eval env')) :=
      List.map_congr_left fun p hp => by rw [(hd.flat p hp).opd]
    simp only [stepOp, this]
  case buildSlice e s z n parts =>
    have : parts.map (fun p => (p.1, p.2.eval env)) = parts.map (fun p => (p.1, p.2.eval env')) :=
      List.map_congr_left fun p hp => by rw [(hd.flat p hp).opd]
    simp only [stepOp, this]
  case makeFunc f l =>
    have : l.map (Opd.eval env) = l.map (Opd.eval env') := List.map_congr_left fun p hp => (hd.flat p hp).opd
    simp only [stepOp, this]
  case sliceStr x lo hi =>
    obtain ⟨hd, h3⟩ := hd.app
    obtain ⟨h1, h2⟩ := hd.app
    simp only [stepOp, h1.opd, h2.bound, h3.bound]
  case slice3 x lo hi mx =>
    obtain ⟨hd, h4⟩ := hd.app
    obtain ⟨hd, h3⟩ := hd.app
    obtain ⟨h1, h2⟩ := hd.app
    have e : ∀ (y : Opd) d l, Agree y.tmps env env' → bound env (some y) d l = bound env' (some y) d l := fun y d l hy => by simp only [Dm.bound, hy.opd]
    simp only [stepOp, h1.opd, e lo _ _ h2, e hi _ _ h3, e mx _ _ h4]
  case sliceSl sz x lo hi =>
    obtain ⟨hd, h3⟩ := hd.app
    obtain ⟨h1, h2⟩ := hd.app
    simp only [stepOp, h1.opd, h2.bound, h3.bound]
  all_goals first
    | simp only [stepOp, hd.opd]
    | (obtain ⟨h1, h2⟩ := hd.app; simp only [stepOp, h1.opd, h2.opd])

/-- A call's operands. -/
theorem oneOp_congr {d : DOp} {call : Nat → List DV → Heap → Option (DV × Heap)} {h : Heap} {env env' : Env} (hd : Agree d.tmps env env') : oneOp call d env h = oneOp call d env' h := by
  cases d
  case call f as =>
    simp only [DOp.tmps] at hd
    obtain ⟨h1, h2⟩ := hd.app
    have : as.map (Opd.eval env) = as.map (Opd.eval env') := List.map_congr_left fun p hp => (h2.flat p hp).opd
    simp only [oneOp, h1.opd, this]
  all_goals exact stepOp_congr hd

theorem target_congr {d : DOp} {env env' : Env} (hd : Agree d.tmps env env') : target env d = target env' d := by
  cases d <;> simp only [DOp.tmps] at hd <;> try rfl
  case load n a => simp only [target, hd.opd]
  case cap x => simp only [target, hd.opd]
  case len k x => simp only [target, hd.opd]
  case sliceSl sz x lo hi =>
    obtain ⟨hd, h3⟩ := hd.app
    obtain ⟨h1, h2⟩ := hd.app
    simp only [target, h1.opd]
  case lookup q z ok m k =>
    obtain ⟨h1, h2⟩ := hd.app
    simp only [target, h1.opd]

theorem poke_oneOp {L : DLog} {o : DOp} {call : Nat → List DV → Heap → Option (DV × Heap)} {h : Heap} {env : Env} {id : Nat} (hp : pokeId L env o = some id) : oneOp call o env h = stepOp h env o := by
  cases o <;> first | (simp only [pokeId] at hp; cases hp; done) | rfl

/-- What is made of nothing that lies in memory: its type, the cells of an element, the elements. -/
def made (env : Env) : DOp → Option (Nat × Nat × List DV)
  | .alloc ety sz z => some (ety, sz, [z])
  | .buildSlice ety sz z len parts => (fillElems sz (List.replicate len z) (parts.map fun p => (p.1, p.2.eval env))).map fun xs => (ety, sz, xs)
  | _ => none

/-- Its name. -/
def madeV (id : Nat) : DOp → DV
  | .alloc _ sz _ => .ptr id sz 0 0
  | .buildSlice _ sz _ len _ => .sl id sz 0 len
  | _ => .unk

theorem made_congr {d : DOp} {env env' : Env} (hd : Agree d.tmps env env') : made env d = made env' d := by
  cases d <;> simp only [DOp.tmps] at hd <;> try rfl
  case buildSlice e s z n parts =>
    have : parts.map (fun p => (p.1, p.2.eval env)) = parts.map (fun p => (p.1, p.2.eval env')) :=
      List.map_congr_left fun p hp => by rw [(hd.flat p hp).opd]
    simp only [made, this]

theorem fillElems_length {sz : Nat} : ∀ (ps : List (Nat × DV)) {xs ys : List DV}, fillElems sz xs ps = some ys → ys.length = xs.length := by
  intro ps
  induction ps with
  | nil => intro xs ys h; simp only [fillElems] at h; cases h; rfl
  | cons p ps ih =>
    intro xs ys h
    obtain ⟨i, v⟩ := p
    simp only [fillElems] at h
    split at h
    · rw [ih h, List.length_set]
    · cases h

theorem cls_made {d : DOp} (ha : d.cls = .alloc) : (∃ ety sz z, d = .alloc ety sz z) ∨ ∃ ety sz z len parts, d = .buildSlice ety sz z len parts := by
  unfold DOp.cls at ha
  split at ha
  all_goals first | (cases ha; done) | exact .inl ⟨_, _, _, rfl⟩ | exact .inr ⟨_, _, _, _, _, rfl⟩ | skip
  split at ha <;> cases ha

theorem stepOp_made {d : DOp} (ha : d.cls = .alloc) {h h' : Heap} {env : Env} {v : DV} (hs : stepOp h env d = some (v, h')) :
    ∃ ety sz xs, made env d = some (ety, sz, xs) ∧ v = madeV h.n d ∧ h' = h.push (.arr ety sz xs (some xs.length)) := by
  rcases cls_made ha with ⟨ety, sz, z, rfl⟩ | ⟨ety, sz, z, len, parts, rfl⟩
  · simp only [stepOp, Option.some.injEq, Prod.mk.injEq] at hs
    obtain ⟨rfl, rfl⟩ := hs
    exact ⟨_, _, _, rfl, rfl, rfl⟩
  · simp only [stepOp] at hs
    split at hs
    · rename_i xs hxs
      simp only [Option.some.injEq, Prod.mk.injEq] at hs
      obtain ⟨rfl, rfl⟩ := hs
      refine ⟨ety, sz, xs, by simp only [made, hxs, Option.map_some], rfl, ?_⟩
      have := fillElems_length _ hxs
      rw [List.length_replicate] at this
      rw [this]
    · cases hs

/-! ## what it looks at in the heap -/

theorem stepOp_env {d : DOp} {h h2 : Heap} {env : Env} {v : DV} {h' : Heap} (hd : d.cls = .env) (hs : stepOp h env d = some (v, h')) : stepOp h2 env d = some (v, h2) := by
  cases d <;> simp only [DOp.cls, touches] at hd <;> try (cases hd)
  case len k x =>
    have hk : k ≠ 2 := fun e => by subst e; cases hd
    clear hd
    simp only [stepOp] at hs ⊢
    cases hx : x.eval env <;> rw [hx] at hs <;> simp only at hs ⊢ <;> try (cases hs)
    case map id =>
      cases hg : h.get id with
      | none => rw [hg] at hs; cases hs
      | some o => rw [hg] at hs; cases o <;> simp only [hk, if_false] at hs <;> cases hs
    all_goals (split at hs; (rename_i e; cases hs; simp [e]); cases hs)
  case minmax mx x y =>
    simp only [stepOp] at hs ⊢
    split at hs
    · rename_i h1 h2; cases hs; simp
    · cases hs
  all_goals (simp only [stepOp] at hs ⊢; repeat' split at hs) <;> simp_all

def Grows (h h2 : Heap) : Prop := ∀ id o, h.get id = some o → alive o = true → h2.get id = some o

/-- What an operation reads is still there. -/
def GrowsT (d : DOp) (env : Env) (h h2 : Heap) : Prop := ∀ id o, target env d = some id → h.get id = some o → alive o = true → h2.get id = some o

theorem Grows.t {h h2 : Heap} (hg : Grows h h2) (d : DOp) (env : Env) : GrowsT d env h h2 := fun id o _ h1 h2 => hg id o h1 h2

theorem loadP_grows {h h2 : Heap} {n : Option Nat} {a v : DV} (hg : ∀ id sz idx off, a = .ptr id sz idx off → ∀ o, h.get id = some o → alive o = true → h2.get id = some o) (hs : loadP h n a = some v) : loadP h2 n a = some v := by
  unfold loadP at hs ⊢
  split at hs
  · split at hs
    · rename_i hx
      rw [hg _ _ _ _ rfl _ hx rfl]; exact hs
    · cases hs
  · exact hs
  · cases hs

theorem stepOp_growsT {d : DOp} {h h2 : Heap} {env : Env} {v : DV} {h' : Heap} (hg : GrowsT d env h h2) (hd : touches d = false) (hs : stepOp h env d = some (v, h')) : stepOp h2 env d = some (v, h2) := by
  by_cases hc : d.cls = .env
  · exact stepOp_env hc hs
  cases d <;> simp only [touches] at hd <;> try (exact Bool.noConfusion hd)
  case load n a =>
    simp only [stepOp] at hs ⊢
    split at hs
    · rename_i v' hl; cases hs; rw [loadP_grows (fun id sz idx off he o h1 h2 => hg id o (by simp only [target, he]) h1 h2) hl]
    · cases hs
  case sliceSl sz x lo hi =>
    simp only [stepOp] at hs ⊢
    split at hs
    · (repeat' split at hs) <;> simp_all
    · (repeat' split at hs) <;> simp_all
    · rename_i hev
      split at hs
      · rename_i hx
        rw [hg _ _ (by simp only [target, hev]) hx rfl]
        (repeat' split at hs) <;> first | cases hs | skip
        rename_i h1 _ _ h2 _ _ h3
        simp only [if_pos h1, h2, h3]
      · cases hs
    · cases hs
  case cap x =>
    simp only [stepOp] at hs ⊢
    split at hs
    · cases hs; rfl
    · rename_i hev
      split at hs
      · rename_i hx; rw [hg _ _ (by simp only [target, hev]) hx rfl]
        split at hs
        · rename_i e; cases hs; simp [e]
        · cases hs
      · rename_i hx; rw [hg _ _ (by simp only [target, hev]) hx rfl]
        split at hs
        · rename_i e; cases hs; simp [e]
        · cases hs
      · cases hs
    · cases hs
  case len k x =>
    simp only [stepOp] at hs ⊢
    cases hx : x.eval env <;> rw [hx] at hs <;> simp only at hs ⊢ <;> try (cases hs)
    case map id =>
      cases hx2 : h.get id with
      | none => rw [hx2] at hs; cases hs
      | some o =>
        rw [hx2] at hs
        cases o <;> simp only at hs <;> try (cases hs)
        rw [hg _ _ (by simp only [target, hx]) hx2 rfl]
        split at hs
        · rename_i e; cases hs; simp [e]
        · cases hs
    all_goals (split at hs; (rename_i e; cases hs; simp [e]); cases hs)
  case lookup q z ok m k =>
    simp only [stepOp] at hs ⊢
    cases hm : m.eval env <;> rw [hm] at hs <;> simp only at hs ⊢ <;> try (cases hs)
    · (repeat' split at hs) <;> simp_all
    · rename_i id
      cases hx : h.get id with
      | none => rw [hx] at hs; cases hs
      | some o =>
        rw [hx] at hs
        cases o <;> simp only at hs <;> try (cases hs)
        rw [hg _ _ (by simp only [target, hm]) hx rfl]
        (repeat' split at hs) <;> simp_all
  all_goals exact absurd rfl hc

theorem stepOp_grows {d : DOp} {h h2 : Heap} {env : Env} {v : DV} {h' : Heap} (hg : Grows h h2) (hd : touches d = false) (hs : stepOp h env d = some (v, h')) : stepOp h2 env d = some (v, h2) :=
  stepOp_growsT (hg.t d env) hd hs

/-! ## what it leaves as it was -/

structure Keeps (h h' : Heap) : Prop where
  lim : h'.lim = h.lim
  n : h.n ≤ h'.n
  get : ∀ id, id < h.lim → h'.get id = h.get id

theorem Keeps.refl (h : Heap) : Keeps h h := ⟨rfl, Nat.le_refl _, fun _ _ => rfl⟩
theorem Keeps.trans {a b c : Heap} (h : Keeps a b) (g : Keeps b c) : Keeps a c :=
  ⟨g.lim.trans h.lim, Nat.le_trans h.n g.n, fun id hi => (g.get id (by rw [h.lim]; exact hi)).trans (h.get id hi)⟩
theorem Keeps.push {h : Heap} (hl : h.lim ≤ h.n) (o : DO) : Keeps h (h.push o) := ⟨rfl, Nat.le_succ _, fun id hi => get_push_old (by omega)⟩
theorem Keeps.set {h : Heap} {id : Nat} {ob : DO} (hg : h.get id = some ob) (hl : h.lim ≤ id) (o : DO) : Keeps h (h.set id o) :=
  ⟨rfl, Nat.le_refl _, fun k hk => get_set_other (get_lt hg) (by omega)⟩

theorem storeP_keeps {h h' : Heap} {n : Nat} {a x : DV} (hs : storeP h n a x = some h') : Keeps h h' := by
  unfold storeP at hs
  split at hs
  · split at hs
    · rename_i hx
      split at hs
      · rename_i hc
        split at hs
        · split at hs
          · cases hs; exact .set hx hc.2.1 _
          · cases hs
        · cases hs
      · cases hs
    · cases hs
  · cases hs

theorem appendD_keeps {h h' : Heap} (hl : h.lim ≤ h.n) {ety sz bytes : Nat} {s v : DV} {ys : List DV} (hs : appendD h ety sz bytes s ys = some (v, h')) : Keeps h h' := by
  unfold appendD at hs
  split at hs
  · split at hs
    · cases hs; exact .refl _
    · split at hs
      · cases hs; exact .push hl _
      · cases hs
  · split at hs
    · cases hs; exact .refl _
    · split at hs
      · rename_i hx
        split at hs
        · split at hs
          · split at hs
            · rename_i hlim; cases hs; exact .set hx hlim _
            · cases hs
          · split at hs
            · cases hs; exact .push hl _
            · split at hs
              · rename_i hlim; cases hs; exact (Keeps.set hx hlim _).trans (.push (by exact hl) _)
              · cases hs
        · cases hs
      · cases hs
  · cases hs

theorem copyD_keeps {h h' : Heap} {sz : Nat} {d v : DV} {ys : List DV} (hs : copyD h sz d ys = some (v, h')) : Keeps h h' := by
  unfold copyD at hs
  split at hs
  · cases hs; exact .refl _
  · split at hs
    · rename_i hx
      split at hs
      · rename_i hc; cases hs; exact .set hx hc.2.2.2 _
      · cases hs
    · cases hs
  · cases hs

theorem stepOp_keeps {d : DOp} {h h' : Heap} (hl : h.lim ≤ h.n) {env : Env} {v : DV} (hs : stepOp h env d = some (v, h')) : Keeps h h' := by
  by_cases ht : touches d = false
  · have hgr : Grows h h := fun _ _ hx _ => hx
    have := stepOp_grows hgr ht hs
    rw [hs] at this
    cases this
    exact .refl _
  cases d <;> simp only [touches, not_true_eq_false] at ht <;> simp only [stepOp] at hs
  case alloc => cases hs; exact .push hl _
  case box => split at hs <;> cases hs; exact .push hl _
  case buildSlice => split at hs <;> cases hs; exact .push hl _
  case store =>
    split at hs
    · rename_i h2 hst; cases hs; exact storeP_keeps hst
    · cases hs
  case append =>
    split at hs
    · exact appendD_keeps hl hs
    · cases hs
  case appendZ =>
    split at hs
    · split at hs
      · exact appendD_keeps hl hs
      · cases hs
    · cases hs
  case copy =>
    split at hs
    · exact copyD_keeps hs
    · cases hs
  case clear =>
    split at hs
    · cases hs; exact .refl _
    · cases hs; exact .refl _
    · split at hs
      · cases hs; exact .refl _
      · split at hs
        · rename_i hcp; cases hs; exact copyD_keeps hcp
        · cases hs
    · cases hs
  case makeSlice =>
    split at hs
    · split at hs
      · cases hs; exact .push hl _
      · cases hs
    · cases hs
  case makeMap => cases hs; exact .push hl _
  case mapUpdate =>
    split at hs
    · split at hs
      · rename_i hx
        split at hs
        · rename_i hc
          split at hs
          · cases hs; exact .set hx hc.1 _
          · cases hs; exact .set hx hc.1 _
          · cases hs
        · cases hs
      · cases hs
    · cases hs
  case delete =>
    split at hs
    · split at hs
      · rename_i hx
        split at hs
        · rename_i hc
          split at hs
          · cases hs; exact .set hx hc.1 _
          · cases hs; exact .refl _
          · cases hs
        · cases hs
      · cases hs
    · cases hs
  case call => cases hs
  all_goals exact absurd trivial ht

end Go.Dm
