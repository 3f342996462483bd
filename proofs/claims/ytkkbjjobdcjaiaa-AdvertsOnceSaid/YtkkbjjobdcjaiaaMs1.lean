/-
Plain laws, part 2: a broker that was told of advertisements alone; sets of IDs as maps.
-/
import Derived.Test.YtkkbjjobdcjaiaaMs0
namespace Go.Dm.Tc

/-- A broker with such neighbours that was told of advertisements alone, so many times at most. -/
structure InvB (m0 : Int) (nr : List Int) (b : Broker) (n : Nat) : Prop where
  me : b.me = m0
  near : b.near = nr
  ent : b.entries = []
  own : b.owns = []
  ra : Rising (b.adverts.map (·.id))
  rs : Rising b.seen
  la : b.adverts.length ≤ n
  ls : b.seen.length ≤ n
  sub : ∀ a ∈ b.adverts, a.id ∈ b.seen
  par : ∀ a ∈ b.adverts, a.parent = -1 ∨ a.parent ∈ nr
  prd : ∀ a ∈ b.adverts, PredOk a.pred

section
variable {me : Int} {near : List Int} {b : Broker} {n : Nat}
theorem InvB.start (me : Int) (near : List Int) : InvB me near ⟨me, near, [], [], [], []⟩ 0 := ⟨rfl, rfl, rfl, rfl, List.Pairwise.nil, List.Pairwise.nil, Nat.le_refl _, Nat.le_refl _, fun a h => (by cases h), fun a h => (by cases h), fun a h => (by cases h)⟩
theorem InvB.mono {m : Nat} (h : InvB me near b n) (hm : n ≤ m) : InvB me near b m := { h with la := Nat.le_trans h.la hm, ls := Nat.le_trans h.ls hm }
theorem InvB.learn (h : InvB me near b n) (a : Advert) (hp : a.parent = -1 ∨ a.parent ∈ near) (hr : PredOk a.pred) : InvB me near (learnB b a).1 (n + 1) := by
  unfold learnB
  split
  · exact h.mono (Nat.le_succ n)
  · rename_i hm
    refine ⟨h.me, h.near, h.ent, h.own, ?_, ?_, ?_, ?_, ?_, ?_, ?_⟩
    · exact ins_rising (fun a : Advert => a.id) a h.ra (fun b hb e => hm (by rw [← e]; exact h.sub b hb))
    · have := ins_rising (fun x : ID => x) a.id (l := b.seen) (by simpa using h.rs) (fun b hb e => hm (by rw [← e]; exact hb))
      simpa using this
    · simp only [ins_len]; exact Nat.succ_le_succ h.la
    · simp only [ins_len]; exact Nat.succ_le_succ h.ls
    · intro x hx
      rw [ins_mem] at hx ⊢
      rcases hx with rfl | hx
      · exact .inl rfl
      · exact .inr (h.sub x hx)
    · intro x hx
      rw [ins_mem] at hx
      rcases hx with rfl | hx
      · exact hp
      · exact h.par x hx
    · intro x hx
      rw [ins_mem] at hx
      rcases hx with rfl | hx
      · exact hr
      · exact h.prd x hx
theorem InvB.forget (h : InvB me near b n) (x : ID) (q : Int) : InvB me near (forgetB b x q).1 n := by
  unfold forgetB
  split
  · exact h
  · split
    · refine ⟨h.me, h.near, ?_, h.own, without_rising _ x h.ra, h.rs, Nat.le_trans (without_len ..) h.la, h.ls, fun a ha => h.sub a (without_mem ha).1, fun a ha => h.par a (without_mem ha).1, fun a ha => h.prd a (without_mem ha).1⟩
      simp [h.ent, without]
    · exact h
theorem InvB.sized (h : InvB me near b n) (hn : n ≤ 1000) (hl : near.length ≤ 1000) : Sized b := ⟨by rw [h.near]; omega, by have := h.la; omega, by have := h.ls; omega, by rw [h.ent]; decide, by rw [h.own]; decide⟩
theorem InvB.sizedP (h : InvB me near b n) : SizedP b := ⟨fun a ha => (h.prd a ha).names.1, fun a ha => (by rw [h.ent] at ha; cases ha), fun a ha => (by rw [h.own] at ha; cases ha)⟩
theorem InvB.sizedN (h : InvB me near b n) : SizedN b := ⟨fun a ha => (h.prd a ha).names, fun a ha => (by rw [h.ent] at ha; cases ha), fun a ha => (by rw [h.own] at ha; cases ha)⟩
theorem InvB.right (h : InvB me near b n) (hn : risesB (fun x y => decide (x < y)) near = true) : rightB b = true := by
  unfold rightB rightRows
  rw [h.near, h.ent, h.own, of_rising (key := fun a : Advert => a.id) h.ra, show risesB (fun x y => ltID x y) b.seen = true from of_rising (key := fun a : ID => a) (by simpa using h.rs), hn]
  have : (b.adverts.any fun a => !rightAdv b a) = false := by
    rw [List.any_eq_false]
    intro a ha
    have h1 := h.sub a ha
    have h2 := h.par a ha
    have h3 := (h.prd a ha).right
    have h4 : linkB b a.parent = true := by
      unfold linkB
      rw [h.near]
      rcases h2 with e | e
      · simp [e]
      · simp [e]
    simp [rightAdv, h1, h3, h4]
  rw [this]
  rfl
end

/-! ## sets of IDs -/
def eSet (ks : List ID) : List (DV × DV) := ks.map fun x => (.agg [.int .i64 x.client, .int .i64 x.seq], .bool true)
def addSet (x : ID) (ks : List ID) : List ID := if x ∈ ks then ks else ks ++ [x]

theorem eqBy_id (c d : Int) (y : ID) : eqBy (.agg [1, 1]) (.agg [.int .i64 c, .int .i64 d]) (.agg [.int .i64 y.client, .int .i64 y.seq]) = some (decide ((⟨c, d⟩ : ID) = y)) := by
  cases y with | mk a b => by_cases h1 : c = a <;> by_cases h2 : d = b <;> simp [h1, h2]

theorem hits_none (c d : Int) : ∀ {ks : List ID}, (⟨c, d⟩ : ID) ∉ ks → hitsE (.agg [1, 1]) (.agg [.int .i64 c, .int .i64 d]) (eSet ks) = some 0
  | [], _ => rfl
  | y :: r, h => by
    have h1 : (⟨c, d⟩ : ID) ≠ y := fun e => h (by rw [e]; exact List.mem_cons_self ..)
    have ih := hits_none c d (ks := r) fun hm => h (List.mem_cons_of_mem _ hm)
    simp only [eSet, List.map_cons, hitsE]
    rw [eqBy_id, show hitsE _ _ (r.map _) = some 0 from ih, decide_eq_false h1]
theorem find_none (c d : Int) : ∀ {ks : List ID} (i : Nat), (⟨c, d⟩ : ID) ∉ ks → findE (.agg [1, 1]) (.agg [.int .i64 c, .int .i64 d]) (eSet ks) i = some none
  | [], _, _ => rfl
  | y :: r, i, h => by
    have h1 : (⟨c, d⟩ : ID) ≠ y := fun e => h (by rw [e]; exact List.mem_cons_self ..)
    have ih := find_none c d (ks := r) (i + 1) fun hm => h (List.mem_cons_of_mem _ hm)
    simp only [eSet, List.map_cons, findE]
    rw [eqBy_id, decide_eq_false h1]
    exact ih
theorem hits_some (c d : Int) : ∀ {ks : List ID}, ks.Nodup → (⟨c, d⟩ : ID) ∈ ks → hitsE (.agg [1, 1]) (.agg [.int .i64 c, .int .i64 d]) (eSet ks) = some 1
  | [], _, h => by cases h
  | y :: r, hn, h => by
    rw [List.nodup_cons] at hn
    simp only [eSet, List.map_cons, hitsE]
    by_cases h1 : (⟨c, d⟩ : ID) = y
    · rw [eqBy_id, decide_eq_true h1, show hitsE _ _ (r.map _) = some 0 from hits_none c d (by rw [h1]; exact hn.1)]
    · rw [eqBy_id, decide_eq_false h1, show hitsE _ _ (r.map _) = some 1 from hits_some c d hn.2 ((List.mem_cons.1 h).resolve_left h1)]
theorem find_some (c d : Int) : ∀ {ks : List ID} (i : Nat), (⟨c, d⟩ : ID) ∈ ks → ∃ j, findE (.agg [1, 1]) (.agg [.int .i64 c, .int .i64 d]) (eSet ks) i = some (some (i + j, .bool true)) ∧ ks[j]? = some ⟨c, d⟩
  | [], _, h => by cases h
  | y :: r, i, h => by
    simp only [eSet, List.map_cons, findE]
    by_cases h1 : (⟨c, d⟩ : ID) = y
    · rw [eqBy_id, decide_eq_true h1]
      exact ⟨0, rfl, by rw [h1]; rfl⟩
    · obtain ⟨j, k1, k2⟩ := find_some c d (i + 1) ((List.mem_cons.1 h).resolve_left h1)
      rw [eqBy_id, decide_eq_false h1]
      refine ⟨j + 1, ?_, by simpa using k2⟩
      rw [show i + (j + 1) = i + 1 + j by omega]
      exact k1

theorem lookup_set {ks : List ID} (hn : ks.Nodup) (c d : Int) : lookupV (.agg [1, 1]) (.bool false) false (.agg [.int .i64 c, .int .i64 d]) (some (eSet ks)) = some (.bool (decide ((⟨c, d⟩ : ID) ∈ ks))) := by
  have he : (eqBy (.agg [1, 1]) (.agg [.int .i64 c, .int .i64 d]) (.agg [.int .i64 c, .int .i64 d])).isSome = true := by simp
  simp only [lookupV, he, if_true]
  by_cases h : (⟨c, d⟩ : ID) ∈ ks
  · obtain ⟨j, k1, _⟩ := find_some c d 0 h
    simp only [findU, hits_some c d hn h, k1, decide_eq_true h]
    rfl
  · simp only [findU, hits_none c d h, find_none c d 0 h, decide_eq_false h]
    rfl

def entO : Option DO → Option (List (DV × DV))
  | some (.mp es) => some es
  | _ => none
theorem entriesV_map (h : Heap) (id : Nat) : entriesV h (.map id) = entO (h.get id) := by
  simp only [entriesV, entO]
  cases h.get id with
  | none => rfl
  | some o => cases o <;> rfl
theorem entO_some (es : List (DV × DV)) : entO (some (.mp es)) = some es := _root_.id rfl
def updO (h : Heap) (q : EqT) (id : Nat) (k x : DV) : Option DO → Option Heap
  | some (.mp es) => if h.lim ≤ id ∧ (eqBy q k k).isSome = true then
      match findU q k es with
      | some (some (i, _)) => some (h.set id (.mp (es.set i (k, x))))
      | some none => some (h.set id (.mp (es ++ [(k, x)])))
      | none => none
    else none
  | _ => none
theorem updateV_map (h : Heap) (q : EqT) (id : Nat) (k x : DV) : updateV h q (.map id) k x = updO h q id k x (h.get id) := by
  simp only [updateV, updO]
  cases h.get id with
  | none => rfl
  | some o => cases o <;> rfl
theorem set_self {α : Type} : ∀ {l : List α} {i : Nat} {a : α}, l[i]? = some a → l.set i a = l
  | [], i, a, h => by simp at h
  | x :: r, 0, a, h => by simp at h; simp [h]
  | x :: r, i + 1, a, h => by simp at h; simp [set_self h]
theorem upd_set {h : Heap} {id : Nat} {ks : List ID} (hn : ks.Nodup) (hl : h.lim ≤ id) (c d : Int) : updO h (.agg [1, 1]) id (.agg [.int .i64 c, .int .i64 d]) (.bool true) (some (.mp (eSet ks))) = some (h.set id (.mp (eSet (addSet ⟨c, d⟩ ks)))) := by
  have he : (eqBy (.agg [1, 1]) (.agg [.int .i64 c, .int .i64 d]) (.agg [.int .i64 c, .int .i64 d])).isSome = true := by simp
  simp only [updO, he, hl, and_self, if_true]
  by_cases hm : (⟨c, d⟩ : ID) ∈ ks
  · obtain ⟨j, k1, k2⟩ := find_some c d 0 hm
    simp only [findU, hits_some c d hn hm, k1, Nat.zero_add, addSet, if_pos hm]
    have hs : (eSet ks).set j (DV.agg [.int .i64 c, .int .i64 d], DV.bool true) = eSet ks := set_self (by simp only [eSet, List.getElem?_map, k2]; rfl)
    simp only [Nat.le_refl, if_true]
    rw [hs]
  · simp only [findU, hits_none c d hm, find_none c d 0 hm, addSet, if_neg hm]
    simp [eSet]
theorem lenV_map (h : Heap) (id : Nat) : lenV h 2 (.map id) = (entO (h.get id)).map fun es => .int .i64 es.length := by
  simp only [lenV, entO]
  cases h.get id with
  | none => rfl
  | some o => cases o <;> rfl
theorem eSet_len (ks : List ID) : (eSet ks).length = ks.length := by simp [eSet]
theorem addSet_nodup {x : ID} {ks : List ID} (h : ks.Nodup) : (addSet x ks).Nodup := by
  unfold addSet
  split
  · exact h
  · rename_i hm
    rw [List.nodup_append]
    exact ⟨h, by simp, fun a ha b hb => by simp at hb; subst hb; intro e; exact hm (by rw [← e]; exact ha)⟩
theorem addSet_mem {x y : ID} {ks : List ID} : y ∈ addSet x ks ↔ y = x ∨ y ∈ ks := by
  unfold addSet
  split
  · rename_i hm
    exact ⟨.inr, fun h => h.elim (fun e => by rw [e]; exact hm) _root_.id⟩
  · rw [List.mem_append, List.mem_singleton]
    exact Or.comm
end Go.Dm.Tc

/-
AdvertsOnce: the law's walk.
-/
namespace Go.Dm.Tc

theorem s7_512 : pcF D t7 [.int .i64 5, .isl true 1 [.int .i64 1, .int .i64 2]] = some (eBroker .none ⟨5, [1, 2], [], [], [], []⟩) := pc_run (n := 2000) (args := [.int .i64 5, .isl true 1 [.int .i64 1, .int .i64 2]]) e7 rfl (by kernel_rfl)

/-- What holds whenever the loop begins anew: who is met was seen. -/
structure OnceI (b : Broker) (ks : List ID) (n : Nat) : Prop where
  inv : InvB 5 [1, 2] b n
  nd : ks.Nodup
  len : ks.length = b.seen.length
  mem : ∀ x, x ∈ ks ↔ x ∈ b.seen

theorem OnceI.start : OnceI ⟨5, [1, 2], [], [], [], []⟩ [] 0 := ⟨.start 5 [1, 2], List.nodup_nil, rfl, fun x => by simp⟩
theorem OnceI.learn {b : Broker} {ks : List ID} {n : Nat} (h : OnceI b ks n) (a : Advert) (hp : a.parent = -1 ∨ a.parent ∈ [(1 : Int), 2]) (hr : PredOk a.pred) : OnceI (learnB b a).1 (addSet a.id ks) (n + 1) := by
  refine ⟨h.inv.learn a hp hr, addSet_nodup h.nd, ?_, fun x => ?_⟩
  · unfold learnB addSet
    by_cases hm : a.id ∈ b.seen
    · rw [if_pos hm, if_pos ((h.mem _).2 hm)]; exact h.len
    · rw [if_neg hm, if_neg (fun q => hm ((h.mem _).1 q))]
      simp [ins_len, h.len]
  · rw [addSet_mem]
    unfold learnB
    by_cases hm : a.id ∈ b.seen
    · rw [if_pos hm]
      rw [h.mem]
      exact ⟨fun q => q.elim (fun e => by rw [e]; exact hm) _root_.id, .inr⟩
    · rw [if_neg hm]
      simp only
      rw [ins_mem, h.mem]
theorem OnceI.forget {b : Broker} {ks : List ID} {n : Nat} (h : OnceI b ks n) (x : ID) (q : Int) : OnceI (forgetB b x q).1 ks n := by
  have hs : (forgetB b x q).1.seen = b.seen := by
    unfold forgetB
    split
    · rfl
    · split <;> rfl
  exact ⟨h.inv.forget x q, h.nd, by rw [hs]; exact h.len, fun y => by rw [hs]; exact h.mem y⟩

theorem learn_seen (b : Broker) (a : Advert) : a.id ∈ (learnB b a).1.seen := by
  unfold learnB
  split
  · assumption
  · simp only; rw [ins_mem]; exact .inl rfl
theorem learn_ok (b : Broker) (a : Advert) : (learnB b a).2 = !decide (a.id ∈ b.seen) := by
  unfold learnB
  split
  · rename_i h; simp [h]
  · rename_i h; simp [h]
theorem forget_own {b : Broker} {x : ID} {a : Advert} (h : b.adverts.find? (fun a => a.id = x) = some a) : forgetB b x a.parent = ({ b with adverts := without (fun a => a.id) x b.adverts, entries := without (fun e => e.tree) x b.entries }, true) := by
  unfold forgetB
  rw [h]
  simp
theorem find_without (x : ID) (l : List Advert) : (without (fun a => a.id) x l).find? (fun a => a.id = x) = none := by
  rw [List.find?_eq_none]
  intro a ha
  have := (without_mem ha).2
  simpa using this

/-- The world of the law's loop. -/
structure OnceH (h : Heap) (has vals : List Int) (b : Broker) (ks : List ID) : Prop where
  g0 : h.get 0 = some (.arr 24 2 [.agg [eL false 1 cInt has, eL false 1 cInt vals]] (some 1))
  g2 : h.get 2 = some (.arr 30 6 [eBroker .none b] (some 1))
  g3 : h.get 3 = some (.mp (eSet ks))
  lim : h.lim = 0
  n : 4 ≤ h.n
  wf : WF h

set_option maxRecDepth 16000 in
set_option maxHeartbeats 8000000 in
theorem y3 (t u : Bool) (cs ss has vals : List Int) (i : Nat) (b : Broker) (ks : List ID) (f : FEnv) (h : Heap) (hhas : has.length ≤ 9223372036854775807) (hi1 : i < cs.length) (hi2 : i < ss.length) (hi3 : i < 20) (hv : OnceI b ks i) (hh : OnceH h has vals b ks)
    (h0 : f 0 = eL t 1 cInt cs) (h1 : f 1 = eL u 1 cInt ss) (h5 : f 5 = .ptr 0 2 0 0) (h7 : f 7 = .ptr 2 6 0 0) (h8 : f 8 = .map 3) (h9 : f 9 = .int .i64 i)
    (hfin : ∀ b' ks' F H, OnceI b' ks' (i + 1) → OnceH H has vals b' ks' → F 0 = eL t 1 cInt cs → F 1 = eL u 1 cInt ss → F 5 = .ptr 0 2 0 0 → F 7 = .ptr 2 6 0 0 → F 8 = .map 3 → F 9 = .int .i64 ((i : Int) + 1) →
      pcOut (fin [.t 6] (run D 145 [.block 0, .seq t3k0] (.loop t3l0) F H)) = some (.bool true)) :
    pcOut (fin [.t 6] (run D 145 [.block 0, .seq t3k0] (.loop t3l0) f h)) = some (.bool true) := by
  obtain ⟨g0, g2, g3, hlim, hn, wf⟩ := hh
  have hw : IntKind.i64.wrap ((i : Int) + 1) = (i : Int) + 1 := wrap64 (by omega) (by omega)
  have hi20 : (i : Int) < 20 := by omega
  have hi1' : (i : Int) < cs.length := by omega
  have hi2' : (i : Int) < ss.length := by omega
  obtain ⟨cv, hcv⟩ : ∃ cv, cs[i] = cv := ⟨_, rfl⟩
  obtain ⟨sv, hsv⟩ : ∃ sv, ss[i] = sv := ⟨_, rfl⟩
  have w1 := s8 cv 0 3 (by decide) (by decide) (by decide)
  have w2 := s8 sv 0 2 (by decide) (by decide) (by decide)
  obtain ⟨p, hp⟩ : ∃ p, mkPred has vals = p := ⟨_, rfl⟩
  have hpr := s10 false false has vals hhas
  rw [hp] at hpr
  have hpo : PredOk p := by rw [← hp]; exact mkPred_ok _ _
  obtain ⟨c, hc⟩ : ∃ c, within cv 0 3 = c := ⟨_, rfl⟩
  obtain ⟨d, hd⟩ : ∃ d, within sv 0 2 = d := ⟨_, rfl⟩
  rw [hc] at w1
  rw [hd] at w2
  obtain ⟨q, hq2, hq⟩ : ∃ q : Int, arithD .rem (.int .i64 (i : Int)) (.int .i64 2) = some (.int .i64 q) ∧ (q = 0 ∨ q = 1) := ⟨(i : Int).tmod 2, rfl, by have := Int.tmod_eq_emod_of_nonneg (a := (i : Int)) (b := 2) (by omega); omega⟩
  obtain ⟨r3, hr3⟩ : ∃ r3 : Int, arithD .rem (.int .i64 (i : Int)) (.int .i64 3) = some (.int .i64 r3) := ⟨(i : Int).tmod 3, rfl⟩
  obtain ⟨r, hr⟩ : ∃ r, IntKind.i64.wrap (1 + q) = r := ⟨_, rfl⟩
  have hrp : r = 1 ∨ r = 2 := by
    rw [wrap64 (by omega) (by omega)] at hr; omega
  have hsz := hv.inv.sized (show i ≤ 1000 by omega) (by decide)
  have hL := s9 .none b c d p r hsz hv.inv.ra hv.inv.rs
  have hnv := hv.learn ⟨⟨c, d⟩, p, r⟩ (.inr (by rcases hrp with e | e <;> simp [e])) hpo
  have hls := learn_seen b ⟨⟨c, d⟩, p, r⟩
  have hlo := learn_ok b ⟨⟨c, d⟩, p, r⟩
  simp only at hls hlo
  rw [decide_eq_decide.2 (hv.mem ⟨c, d⟩).symm] at hlo
  obtain ⟨b', hb'⟩ : ∃ b', (learnB b ⟨⟨c, d⟩, p, r⟩).1 = b' := ⟨_, rfl⟩
  obtain ⟨g, hg⟩ : ∃ g, (learnB b ⟨⟨c, d⟩, p, r⟩).2 = g := ⟨_, rfl⟩
  rw [hb'] at hnv hls hL
  rw [hg] at hL hlo
  obtain ⟨m, hm⟩ : ∃ m, decide ((⟨c, d⟩ : ID) ∈ ks) = m := ⟨_, rfl⟩
  rw [hm] at hlo
  have f1 := fun {α : Type} (t : Bool) (sz : Nat) (e : α → DV) (xs : List α) => (flat_eL t sz e xs).mono (show 1 ≤ 20 by decide)
  have hlk := lookup_set hv.nd c d
  rw [hm] at hlk
  have hup := fun (H : Heap) (hl : H.lim ≤ 3) => upd_set (h := H) (id := 3) hv.nd hl c d
  obtain ⟨ks', hks'⟩ : ∃ ks', addSet ⟨c, d⟩ ks = ks' := ⟨_, rfl⟩
  rw [hks'] at hup
  simp only [hks'] at hnv
  have hSn := s11 (.int .i64 b'.me) (eL false 1 cInt b'.near) (eL false 4 eAdvert b'.adverts) (eL false 7 eEntry b'.entries) (eL false 3 eOwn b'.owns) false b'.seen c d hnv.inv.rs (by have := hnv.inv.ls; omega) ((flat_int _ _).mono (by decide)) (f1 _ _ _ _) (f1 _ _ _ _) (f1 _ _ _ _) (f1 _ _ _ _)
  rw [decide_eq_true hls] at hSn
  have hFd := s12 (.int .i64 b'.me) (eL false 1 cInt b'.near) (eL false 2 eID b'.seen) (eL false 7 eEntry b'.entries) (eL false 3 eOwn b'.owns) false b'.adverts c d hnv.inv.ra (by have := hnv.inv.la; omega) ((flat_int _ _).mono (by decide)) (f1 _ _ _ _) (f1 _ _ _ _) (f1 _ _ _ _) (f1 _ _ _ _)
  have k0 : ∀ k : Nat, k < 4 → ¬ k = h.n := fun k hk => by omega
  have n0 := k0 0 (by decide)
  have n1 := k0 1 (by decide)
  have n2 := k0 2 (by decide)
  have n3 := k0 3 (by decide)
  have m0 : ¬ h.n = 0 := by omega
  have m1 : ¬ h.n = 1 := by omega
  have m2 : ¬ h.n = 2 := by omega
  have m3 : ¬ h.n = 3 := by omega
  have l0 : 0 < h.n := by omega
  have l1 : 1 < h.n := by omega
  have l2 : 2 < h.n := by omega
  have l3 : 3 < h.n := by omega
  have p1 : 1 < h.n + 1 := by omega
  have p2 : 2 < h.n + 1 := by omega
  have p3 : 3 < h.n + 1 := by omega
  have p4 : 2 < h.n + 1 + 1 := by omega
  have p5 : 3 < h.n + 1 + 1 := by omega
  have p6 : 3 < h.n + 1 + 1 + 1 := by omega
  simp only [eBroker, Tags.none] at hL g2
  rw [run_loop_of t3l0.eq_1]
  subst hlo
  by_cases h32 : r3 = 2
  · cases hq : b'.adverts.find? (fun a => decide (a.id = ⟨c, d⟩)) with
    | none =>
      rw [hq] at hFd
      cases m
      · simp [h0, h1, h5, h7, h8, h9, hi1, hi2, hcv, hsv, cInt, hi1', hi2', hi20, e8, w1, w2, g0, g2, g3, hlim, wf, hw, n0, n2, n3, m1, m2, l2, l3, p2, p3, e10, hpr, hq2, hr, hr3, h32, e9, hL, turn, entriesV_map, entO_some, hlk, updateV_map, hup, e11, hSn, e12, hFd, hasO, eAdvert, advZero]
        refine hfin b' ks' _ _ hnv ⟨?_, ?_, ?_, ?_, ?_, ?_⟩ ?_ ?_ ?_ ?_ ?_ ?_ <;> simp [h0, h1, h5, h7, h8, hlim, g0, eBroker, Tags.none, wf, l2, l3, n0, n2, n3, m0, m1, m2] <;> omega
      · simp [h0, h1, h5, h7, h8, h9, hi1, hi2, hcv, hsv, cInt, hi1', hi2', hi20, e8, w1, w2, g0, g2, g3, hlim, wf, hw, n0, n2, n3, m1, m2, l2, l3, p2, p3, e10, hpr, hq2, hr, hr3, h32, e9, hL, turn, entriesV_map, entO_some, hlk, updateV_map, hup, e11, hSn, e12, hFd, hasO, eAdvert, advZero]
        refine hfin b' ks' _ _ hnv ⟨?_, ?_, ?_, ?_, ?_, ?_⟩ ?_ ?_ ?_ ?_ ?_ ?_ <;> simp [h0, h1, h5, h7, h8, hlim, g0, eBroker, Tags.none, wf, l2, l3, n0, n2, n3, m0, m1, m2] <;> omega
    | some a =>
      rw [hq] at hFd
      have hax : a.id = ⟨c, d⟩ := by simpa using List.find?_some hq
      have hai1 : a.id.client = c := by rw [hax]
      have hai2 : a.id.seq = d := by rw [hax]
      have hsz' := hnv.inv.sized (show i + 1 ≤ 1000 by omega) (by decide)
      have hF := s13 .none b' c d a.parent hsz' hnv.inv.ra
      have hfo := forget_own hq
      have hnv2 := hnv.forget ⟨c, d⟩ a.parent
      rw [hfo] at hF hnv2
      simp only at hF hnv2
      have hFd2 := s12 (.int .i64 b'.me) (eL false 1 cInt b'.near) (eL false 2 eID b'.seen) (eL false 7 eEntry (without (fun e => e.tree) ⟨c, d⟩ b'.entries)) (eL false 3 eOwn b'.owns) false (without (fun a => a.id) ⟨c, d⟩ b'.adverts) c d hnv2.inv.ra (by have := hnv2.inv.la; simp only at this; omega) ((flat_int _ _).mono (by decide)) (f1 _ _ _ _) (f1 _ _ _ _) (f1 _ _ _ _) (f1 _ _ _ _)
      rw [find_without] at hFd2
      have hSn2 := s11 (.int .i64 b'.me) (eL false 1 cInt b'.near) (eL false 4 eAdvert (without (fun a => a.id) ⟨c, d⟩ b'.adverts)) (eL false 7 eEntry (without (fun e => e.tree) ⟨c, d⟩ b'.entries)) (eL false 3 eOwn b'.owns) false b'.seen c d hnv.inv.rs (by have := hnv.inv.ls; omega) ((flat_int _ _).mono (by decide)) (f1 _ _ _ _) (f1 _ _ _ _) (f1 _ _ _ _) (f1 _ _ _ _)
      rw [decide_eq_true hls] at hSn2
      simp only [eBroker, Tags.none] at hF
      obtain ⟨A1, hA1⟩ : ∃ A1, without (fun a : Advert => a.id) ⟨c, d⟩ b'.adverts = A1 := ⟨_, rfl⟩
      obtain ⟨E1, hE1⟩ : ∃ E1, without (fun e : Entry => e.tree) ⟨c, d⟩ b'.entries = E1 := ⟨_, rfl⟩
      rw [hA1, hE1] at hF hFd2 hSn2
      rw [hA1, hE1] at hnv2
      cases m
      · simp [h0, h1, h5, h7, h8, h9, hi1, hi2, hcv, hsv, cInt, hi1', hi2', hi20, e8, w1, w2, g0, g2, g3, hlim, wf, hw, n0, n2, n3, m0, m1, m2, l2, l3, p2, p3, p4, e10, hpr, hq2, hr, hr3, h32, e9, hL, turn, entriesV_map, entO_some, hlk, updateV_map, hup, e11, hSn, e12, hFd, hasO, eAdvert, hai1, hai2, e13, hF, hFd2, hSn2, advZero]
        refine hfin ⟨b'.me, b'.near, A1, b'.seen, E1, b'.owns⟩ ks' _ _ hnv2 ⟨?_, ?_, ?_, ?_, ?_, ?_⟩ ?_ ?_ ?_ ?_ ?_ ?_ <;> simp [h0, h1, h5, h7, h8, hlim, g0, eBroker, Tags.none, wf, l2, l3, n0, n2, n3, m0, m1, m2] <;> omega
      · simp [h0, h1, h5, h7, h8, h9, hi1, hi2, hcv, hsv, cInt, hi1', hi2', hi20, e8, w1, w2, g0, g2, g3, hlim, wf, hw, n0, n2, n3, m0, m1, m2, l2, l3, p2, p3, p4, e10, hpr, hq2, hr, hr3, h32, e9, hL, turn, entriesV_map, entO_some, hlk, updateV_map, hup, e11, hSn, e12, hFd, hasO, eAdvert, hai1, hai2, e13, hF, hFd2, hSn2, advZero]
        refine hfin ⟨b'.me, b'.near, A1, b'.seen, E1, b'.owns⟩ ks' _ _ hnv2 ⟨?_, ?_, ?_, ?_, ?_, ?_⟩ ?_ ?_ ?_ ?_ ?_ ?_ <;> simp [h0, h1, h5, h7, h8, hlim, g0, eBroker, Tags.none, wf, l2, l3, n0, n2, n3, m0, m1, m2] <;> omega
  · cases m
    · simp [h0, h1, h5, h7, h8, h9, hi1, hi2, hcv, hsv, cInt, hi1', hi2', hi20, e8, w1, w2, g0, g2, g3, hlim, wf, hw, n0, n2, n3, m1, m2, l2, l3, p2, p3, e10, hpr, hq2, hr, hr3, h32, e9, hL, turn, entriesV_map, entO_some, hlk, updateV_map, hup, e11, hSn]
      refine hfin b' ks' _ _ hnv ⟨?_, ?_, ?_, ?_, ?_, ?_⟩ ?_ ?_ ?_ ?_ ?_ ?_ <;> simp [h0, h1, h5, h7, h8, hlim, g0, eBroker, Tags.none, wf, l2, l3, n0, n2, n3, m0, m1, m2] <;> omega
    · simp [h0, h1, h5, h7, h8, h9, hi1, hi2, hcv, hsv, cInt, hi1', hi2', hi20, e8, w1, w2, g0, g2, g3, hlim, wf, hw, n0, n2, n3, m1, m2, l2, l3, p2, p3, e10, hpr, hq2, hr, hr3, h32, e9, hL, turn, entriesV_map, entO_some, hlk, updateV_map, hup, e11, hSn]
      refine hfin b' ks' _ _ hnv ⟨?_, ?_, ?_, ?_, ?_, ?_⟩ ?_ ?_ ?_ ?_ ?_ ?_ <;> simp [h0, h1, h5, h7, h8, hlim, g0, eBroker, Tags.none, wf, l2, l3, n0, n2, n3, m0, m1, m2] <;> omega

theorem z3 (t u : Bool) (cs ss has vals : List Int) (hhas : has.length ≤ 9223372036854775807) :
    ∀ (k i : Nat) (b : Broker) (ks : List ID) (f : FEnv) (h : Heap), i + k = 20 → OnceI b ks i → OnceH h has vals b ks → f 0 = eL t 1 cInt cs → f 1 = eL u 1 cInt ss → f 5 = .ptr 0 2 0 0 → f 7 = .ptr 2 6 0 0 → f 8 = .map 3 → f 9 = .int .i64 i →
    pcOut (fin [.t 6] (run D 145 [.block 0, .seq t3k0] (.loop t3l0) f h)) = some (.bool true) := by
  intro k
  have hend : ∀ (i : Nat) (b : Broker) (ks : List ID) (f : FEnv) (h : Heap), OnceI b ks i → i ≤ 20 → OnceH h has vals b ks → f 7 = .ptr 2 6 0 0 → f 8 = .map 3 → pcOut (fin [.t 6] (run D 145 [] t3k0 f h)) = some (.bool true) := by
    intro i b ks f h hv hi hh h7 h8
    obtain ⟨g0, g2, g3, hlim, hn, wf⟩ := hh
    have hR := s15 .none b (hv.inv.sized (by omega) (by decide)) hv.inv.sizedN
    rw [hv.inv.right (by decide)] at hR
    simp only [eBroker, Tags.none] at hR g2
    have q1 : ltID ⟨1, 5⟩ ⟨2, 0⟩ = true := by decide
    have q2 : ltID ⟨2, 0⟩ ⟨1, 5⟩ = false := by decide
    have q3 : ltID ⟨1, 5⟩ ⟨1, 5⟩ = false := by decide
    have m2 : ¬ h.n = 2 := by omega
    have m1 : ¬ h.n = 1 := by omega
    have m3 : ¬ h.n = 3 := by omega
    have n2 : ¬ 2 = h.n := by omega
    have n3 : ¬ 3 = h.n := by omega
    have hlen := hv.len
    simp [t3k0, h7, h8, g2, g3, hlim, m1, m2, n2, n3, turn, lenV_map, entO_some, eSet_len, hlen, e14, s14, q1, q2, q3, e15, hR, e16, s16]
  induction k with
  | zero =>
    intro i b ks f h hk hv hh h0 h1 h5 h7 h8 h9
    have hi : i = 20 := by omega
    subst hi
    rw [run_loop_of t3l0.eq_1]
    by_cases a1 : 20 < cs.length
    · have a1' : (20 : Int) < cs.length := by omega
      by_cases a2 : 20 < ss.length
      · have a2' : (20 : Int) < ss.length := by omega
        simp [h0, h1, h9, a1', a2']
        exact hend 20 b ks _ h hv (by decide) hh (by simp [h7]) (by simp [h8])
      · have a2' : ¬ (20 : Int) < ss.length := by omega
        simp [h0, h1, h9, a1', a2']
        exact hend 20 b ks _ h hv (by decide) hh (by simp [h7]) (by simp [h8])
    · have a1' : ¬ (20 : Int) < cs.length := by omega
      simp [h0, h9, a1']
      exact hend 20 b ks _ h hv (by decide) hh (by simp [h7]) (by simp [h8])
  | succ k ih =>
    intro i b ks f h hk hv hh h0 h1 h5 h7 h8 h9
    by_cases a1 : i < cs.length
    · by_cases a2 : i < ss.length
      · exact y3 t u cs ss has vals i b ks f h hhas a1 a2 (by omega) hv hh h0 h1 h5 h7 h8 h9 fun b' ks' F H v1 v2 x0 x1 x5 x7 x8 x9 => ih (i + 1) b' ks' F H (by omega) v1 v2 x0 x1 x5 x7 x8 (by rw [x9]; simp)
      · rw [run_loop_of t3l0.eq_1]
        have a1' : (i : Int) < cs.length := by omega
        have a2' : ¬ (i : Int) < ss.length := by omega
        simp [h0, h1, h9, a1', a2']
        exact hend i b ks _ h hv (by omega) hh (by simp [h7]) (by simp [h8])
    · rw [run_loop_of t3l0.eq_1]
      have a1' : ¬ (i : Int) < cs.length := by omega
      simp [h0, h9, a1']
      exact hend i b ks _ h hv (by omega) hh (by simp [h7]) (by simp [h8])

theorem s3 (t u : Bool) (cs ss has vals : List Int) (hhas : has.length ≤ 9223372036854775807) : pcF D t3 [eL t 1 cInt cs, eL u 1 cInt ss, .agg [eL false 1 cInt has, eL false 1 cInt vals]] = some (.bool true) := by
  unfold pcF
  rw [goRun_eq _ _ _ _ (by simp [t3])]
  have hnew := s7_512
  simp only [eBroker, Tags.none] at hnew
  simp [t3, List.replicate, mkIsl, e7, hnew, turn]
  refine z3 t u cs ss has vals hhas 20 0 _ [] _ _ rfl OnceI.start ⟨?_, ?_, ?_, ?_, ?_, ?_⟩ ?_ ?_ ?_ ?_ ?_ ?_ <;> simp [eBroker, Tags.none, eSet]
end Go.Dm.Tc

