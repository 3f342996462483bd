/-
Part 8 of "Dm": operations that make memory, or write it.
-/
import Derived.Test.YtkhmbjajaibinaaGreatDoorDm7
namespace Go.Dm

section
variable {P : Program} {h h' : Heap} {c : Ctx} {env : Env} {a : Act} {o : Oper} {r : DV}

theorem storable_cells {n : Nat} {d : DV} {v : Value} (hs : storable n d = true) (hv : VR c d v) :
    (ecells n d).length = n ∧ v.cells.size = n ∧ ∀ j (h1 : j < (ecells n d).length) (h2 : j < v.cells.size), VR c (ecells n d)[j] v.cells[j] ∧ (v.cells[j]).oneCell' = true := by
  have single : d.one = true → d ≠ .unk → n = 1 → (ecells n d = [d]) → v.cells = #[v] → (ecells n d).length = n ∧ v.cells.size = n ∧ ∀ j (h1 : j < (ecells n d).length) (h2 : j < v.cells.size), VR c (ecells n d)[j] v.cells[j] ∧ (v.cells[j]).oneCell' = true := by
    intro h1 h2 h3 h4 h5
    subst h3
    refine ⟨by rw [h4]; rfl, by rw [h5]; rfl, fun j a1 a2 => ?_⟩
    have e : j = 0 := by rw [h4] at a1; simpa using a1
    subst e
    simp only [h4, h5, List.getElem_cons_zero]
    exact ⟨hv, hv.one h2 h1⟩
  cases hv
  case unk => simp [storable] at hs
  case tup => simp [storable] at hs
  case tok => simp [storable] at hs
  case agg ds vs hl h1 hvv =>
    simp only [storable, beq_iff_eq] at hs
    refine ⟨hs, by simp [Value.cells]; omega, fun j a1 a2 => ?_⟩
    simp only [ecells] at a1
    simp only [Value.cells, List.size_toArray] at a2
    simp only [ecells, Value.cells, List.getElem_toArray]
    exact ⟨hvv j a1 a2, h1 j a2⟩
  all_goals
    simp only [storable, beq_iff_eq] at hs
    exact single rfl (by simp) hs rfl rfl

/-- Elements over a whole row. -/
theorem oneRow_full {xs : List DV} {sz m : Nat} {cur : Array Value} (hE : ElemsR c xs sz cur 0) (hsz : 0 < sz) (hs : cur.size = m * sz) (hm : xs.length = m) : OneRow cur := by
  intro q v hq
  have hlt := (Array.getElem?_eq_some_iff.1 hq).1
  have hi : q / sz < xs.length := by rw [hm]; exact Nat.div_lt_of_lt_mul (by rw [Nat.mul_comm, ← hs]; exact hlt)
  obtain ⟨w1, w2⟩ := hE (q / sz) hi
  obtain ⟨u, b1, b2, _⟩ := w2 (q % sz) (by rw [w1]; exact Nat.mod_lt _ hsz)
  have hpos : 0 + q / sz * sz + q % sz = q := by
    have := Nat.div_add_mod q sz
    rw [Nat.mul_comm] at this
    omega
  rw [hpos, hq] at b1
  cases b1
  exact b2

/-- A new row. -/
theorem new_arr (hR : Rel h c) (w' : World) {cur : Array Value} {ety sz m : Nat} {xs : List DV} {cap : Option Nat} (hw : w'.heap = c.w.heap.push (.cells cur ety (0, 0))) (hsz : 0 < sz) (hcur : cur.size = m * sz)
    (hx : xs.length ≤ m) (hcap : ∀ k, cap = some k → k = m ∧ xs.length = m) (hone : OneRow cur) (hel : ElemsR c xs sz cur 0) (hq : w'.os = c.w.os ∧ w'.output = c.w.output := by exact ⟨rfl, rfl⟩) :
    ∃ ρ', Rel (h.push (.arr ety sz xs cap)) (c.next w' ρ' (h.push (.arr ety sz xs cap))) ∧ CtxLe c (c.next w' ρ' (h.push (.arr ety sz xs cap))) ∧ ρ' h.n = some (c.w.heap.size, 0) ∧ w'.shape? c.w.heap.size = some (ety, m * sz) := by
  have hnew : w'.heap[c.w.heap.size]? = some (.cells cur ety (0, 0)) := by rw [hw]; simp
  refine ⟨fun i => if i = h.n then some (c.w.heap.size, 0) else c.ρ i, ?_⟩
  have key := hR.push (.arr ety sz xs cap) w' c.w.heap.size 0 (Nat.le_refl _) (by rw [hw]; simp) (fun k hk => by rw [hw, Array.getElem?_push]; simp; omega) (.push hw rfl hq.1 hq.2) (fun hle => by
    refine ⟨c.w.heap.size, 0, cur, m, by simp [Ctx.next], hnew, hsz, by omega, hx, hcap, hone, fun i hi => ⟨(hel i hi).1, fun j hj => ?_⟩⟩
    obtain ⟨v, a1, a2, a3⟩ := (hel i hi).2 j hj
    exact ⟨v, a1, a2, a3.mono hle⟩)
  exact ⟨key.1, key.2, by simp, by simp [World.shape?, hnew, hcur]⟩

theorem elemsR_one {d : DV} {v : Value} {sz : Nat} (hs : storable sz d = true) (hv : VR c d v) : ElemsR c [d] sz v.cells 0 := by
  obtain ⟨h1, h2, h3⟩ := storable_cells hs hv
  intro i hi
  have e : i = 0 := by simpa using hi
  subst e
  simp only [List.getElem_cons_zero]
  refine ⟨h1, fun j hj => ⟨v.cells[j]'(by omega), by simp, (h3 j hj (by omega)).2, (h3 j hj (by omega)).1⟩⟩

theorem post_ptr (hR : Rel h c) (w' : World) {d : DV} {v : Value} {ety sz : Nat} (hw : w'.heap = c.w.heap.push (.cells v.cells ety (0, 0))) (hsz : 0 < sz) (hs : storable sz d = true) (hv : VR c d v) (hq : w'.os = c.w.os ∧ w'.output = c.w.output := by exact ⟨rfl, rfl⟩) :
    Post h c (h.push (.arr ety sz [d] (some 1))) w' (.ptr h.n sz 0 0) (.pointer (some ⟨c.w.heap.size, 0, none⟩)) := by
  obtain ⟨_, h2, _⟩ := storable_cells hs hv
  obtain ⟨ρ', k1, k2, k3, k4⟩ := new_arr hR w' (m := 1) (cap := some 1) hw hsz (by omega) (xs := [d]) (by simp) (fun k hk => by cases hk; simp) (oneRow_full (m := 1) (elemsR_one hs hv) hsz (by omega) rfl) (elemsR_one hs hv) hq
  refine ⟨ρ', k1, k2, ?_⟩
  have := VR.ptr (c := c.next w' ρ' (h.push (.arr ety sz [d] (some 1)))) (id := h.n) (sz := sz) (idx := 0) (off := 0) (b := c.w.heap.size) (base := 0) k3
  simpa using this

theorem elem_facts {e : TypeId} {sz bytes : Nat} {z : DV} (he : elemOf' P e = some (sz, bytes, z)) : ∃ i z0, P.info? e = some i ∧ i.size = sz ∧ i.bytes = bytes ∧ i.zero = some z0 ∧ constD z0 = some z ∧ 0 < sz ∧ storable sz z = true := by
  unfold elemOf' at he
  split at he
  · rename_i i hi
    split at he
    · rename_i z' hz
      split at he
      · rename_i hc
        cases he
        simp only [Option.bind_eq_some_iff] at hz
        obtain ⟨z0, h1, h2⟩ := hz
        exact ⟨i, z0, hi, rfl, rfl, h1, h2, hc.1, hc.2⟩
      · cases he
    · cases he
  · cases he

theorem s_alloc {e : TypeId} {sz bytes : Nat} {z : DV} (ho : o.op = .alloc e) (he : elemOf' P e = some (sz, bytes, z)) (hR : Rel h c) (_hE : EnvR c env a) (hs : stepOp h env (.alloc e sz z) = some (r, h')) : Steps1 P h c o a h' r := by
  simp only [stepOp, Option.some.injEq, Prod.mk.injEq] at hs
  obtain ⟨rfl, rfl⟩ := hs
  obtain ⟨i, z0, hi, e1, e2, hz, hzd, hsz, hst⟩ := elem_facts he
  refine ⟨.value (.pointer (some ⟨c.w.heap.size, 0, none⟩)), _, { c.w with heap := c.w.heap.push (.cells z0.cells e) }, ?_, .inl rfl, post_ptr hR _ rfl hsz hst (constD_VR hzd c)⟩
  simp [execOp, ho, Instr.alloc, zeroValue, typeInfo, hi, hz, newVar, newRow]

theorem s_box {e : TypeId} {sz bytes : Nat} {z : DV} {x : Operand} {x' : Opd} (ho : o.op = .box e x) (he : elemOf' P e = some (sz, bytes, z)) (hx : opd x = some x') (hR : Rel h c) (hE : EnvR c env a)
    (hs : stepOp h env (.box e sz x') = some (r, h')) : Steps1 P h c o a h' r := by
  have vx := opd_VR hx hE
  simp only [stepOp] at hs
  split at hs
  · rename_i hst
    simp only [Option.some.injEq, Prod.mk.injEq] at hs
    obtain ⟨rfl, rfl⟩ := hs
    obtain ⟨i, z0, hi, e1, e2, hz, hzd, hsz, _⟩ := elem_facts he
    refine ⟨.value (.pointer (some ⟨c.w.heap.size, 0, none⟩)), _, { c.w with heap := c.w.heap.push (.cells (a.eval x).cells e) }, ?_, .inl rfl, post_ptr hR _ rfl hsz hst vx⟩
    simp [execOp, ho, Instr.box, newVar, newRow]
  · cases hs

/-- A row written at some of its cells. -/
def spl (cur : Array Value) (p : Nat) (vs : List Value) : Array Value := (cur.toList.take p ++ vs ++ cur.toList.drop (p + vs.length)).toArray

theorem spl_size {cur : Array Value} {p : Nat} {vs : List Value} (hle : p + vs.length ≤ cur.size) : (spl cur p vs).size = cur.size := by
  simp [spl]; omega

theorem spl_get {cur : Array Value} {p : Nat} {vs : List Value} (hle : p + vs.length ≤ cur.size) (q : Nat) :
    (spl cur p vs)[q]? = if q < p then cur[q]? else if q < p + vs.length then vs[q - p]? else cur[q]? := by
  have hl : (cur.toList.take p).length = p := by simp; omega
  simp only [spl, List.getElem?_toArray, List.append_assoc]
  rw [List.getElem?_append, hl]
  split
  · rename_i hq; rw [List.getElem?_take, if_pos hq, Array.getElem?_toList]
  · rw [List.getElem?_append]
    split
    · rw [if_pos (by omega)]
    · rw [if_neg (by omega), List.getElem?_drop, Array.getElem?_toList]
      congr 1
      omega

theorem oneRow_spl {cur : Array Value} {p : Nat} {vs : List Value} (h1 : OneRow cur) (hp : p + vs.length ≤ cur.size) (hvs : ∀ v ∈ vs, v.oneCell' = true) : OneRow (spl cur p vs) := by
  intro q v hq
  rw [spl_get hp] at hq
  split at hq
  · exact h1 q v hq
  · split at hq
    · exact hvs v (List.mem_of_getElem? hq)
    · exact h1 q v hq

/-- An object's row written. -/
theorem Rel.write {ety sz : Nat} {xs : List DV} {cap : Option Nat} {id b base m : Nat} {cur : Array Value} (hR : Rel h c) (hg : h.get id = some (.arr ety sz xs cap)) (hρ : c.ρ id = some (b, base)) (g1 : c.w.heap[b]? = some (.cells cur ety (0, 0))) (hsz : 0 < sz)
    (g3 : cur.size = base + m * sz) (xs' : List DV) (hl : xs'.length = xs.length) (hx : xs.length ≤ m) (hcap : ∀ k, cap = some k → k = m ∧ xs.length = m) (p : Nat) (vs : List Value) (hp : p + vs.length ≤ cur.size) (hvs : ∀ v ∈ vs, v.oneCell' = true)
    (hel : ElemsR c xs' sz (spl cur p vs) base) : Rel (h.set id (.arr ety sz xs' cap)) (c.next (c.w.setRow b (spl cur p vs)) c.ρ (h.set id (.arr ety sz xs' cap))) ∧ CtxLe c (c.next (c.w.setRow b (spl cur p vs)) c.ρ (h.set id (.arr ety sz xs' cap))) := by
  refine hR.set (.arr ety sz xs' cap) hg rfl rfl hρ _ (by simp) (fun k hk => setRow_other _ _ _ _ hk) (fun e n hs => ?_) (.at g1 (setRow_heap c.w b cur _ ety (0, 0) g1) (fun k hk => setRow_other _ _ _ _ hk) rfl rfl rfl rfl) (fun hle => ?_)
  · rw [shape_of_heap g1] at hs
    cases hs
    rw [shape_of_heap (setRow_heap c.w b cur _ ety (0, 0) g1), spl_size hp]
  · refine ⟨b, base, spl cur p vs, m, hρ, setRow_heap c.w b cur _ ety (0, 0) g1, hsz, by rw [spl_size hp]; exact g3, by omega, fun k hk => by rw [hl]; exact hcap k hk, oneRow_spl (hR.oneRow hg hρ g1) hp hvs, fun i hi => ⟨(hel i hi).1, fun j hj => ?_⟩⟩
    obtain ⟨v, a1, a2, a3⟩ := (hel i hi).2 j hj
    exact ⟨v, a1, a2, a3.mono hle⟩

theorem run_storeCells {b p : Nat} {ety : TypeId} {cur : Array Value} {w : World} (g1 : w.heap[b]? = some (.cells cur ety (0, 0))) (vs : List Value) (hp : p + vs.length ≤ cur.size) (h1 : ∀ v ∈ vs, v.oneCell' = true) :
    (storeCells ⟨b, p, none⟩ vs).run P w = .ok () (w.setRow b (spl cur p vs)) := by
  have := run_storeCells_at P b p ety vs 0 cur w g1 (by simpa using hp) h1
  simpa [spl] using this

theorem mul_lt_of {i k sz j : Nat} (hik : i < k) (hj : j < sz) : i * sz + j < k * sz := by
  have : (i + 1) * sz ≤ k * sz := Nat.mul_le_mul_right _ hik
  rw [Nat.add_mul] at this
  omega

/-- Data over cells of a row. -/
def CellsOk (c : Ctx) (cur : Array Value) (p : Nat) (L : List DV) : Prop := ∀ (j : Nat) (d : DV), L[j]? = some d → ∃ v, cur[p + j]? = some v ∧ v.oneCell' = true ∧ VR c d v

theorem elemsR_iff {xs : List DV} {sz base : Nat} {cur : Array Value} : ElemsR c xs sz cur base ↔ ∀ (i : Nat) (d : DV), xs[i]? = some d → (ecells sz d).length = sz ∧ CellsOk c cur (base + i * sz) (ecells sz d) := by
  constructor
  · intro hh i d hd
    obtain ⟨hi, rfl⟩ := List.getElem?_eq_some_iff.1 hd
    refine ⟨(hh i hi).1, fun j e he => ?_⟩
    obtain ⟨hj, rfl⟩ := List.getElem?_eq_some_iff.1 he
    exact (hh i hi).2 j hj
  · intro hh i hi
    obtain ⟨h1, h2⟩ := hh i xs[i] (List.getElem?_eq_getElem hi)
    exact ⟨h1, fun j hj => h2 j _ (List.getElem?_eq_getElem hj)⟩

theorem ElemsR.mono' {c' : Ctx} {xs : List DV} {sz base : Nat} {cur : Array Value} (hE : ElemsR c xs sz cur base) (hle : CtxLe c c') : ElemsR c' xs sz cur base := fun i hi =>
  ⟨(hE i hi).1, fun j hj => let ⟨v, a1, a2, a3⟩ := (hE i hi).2 j hj; ⟨v, a1, a2, a3.mono hle⟩⟩

theorem CellsOk.append {cur : Array Value} {p : Nat} {L1 L2 : List DV} (h1 : CellsOk c cur p L1) (h2 : CellsOk c cur (p + L1.length) L2) : CellsOk c cur p (L1 ++ L2) := by
  intro j d hd
  rw [List.getElem?_append] at hd
  split at hd
  · exact h1 j d hd
  · rename_i hj
    obtain ⟨v, a1, a2⟩ := h2 _ d hd
    exact ⟨v, by rw [← a1]; congr 1; omega, a2⟩

theorem CellsOk.take {cur : Array Value} {p : Nat} {L : List DV} (h1 : CellsOk c cur p L) (n : Nat) : CellsOk c cur p (L.take n) := by
  intro j d hd
  rw [List.getElem?_take] at hd
  split at hd
  · exact h1 j d hd
  · cases hd

theorem CellsOk.drop {cur : Array Value} {p : Nat} {L : List DV} (h1 : CellsOk c cur p L) (n : Nat) : CellsOk c cur (p + n) (L.drop n) := by
  intro j d hd
  rw [List.getElem?_drop] at hd
  obtain ⟨v, a1, a2⟩ := h1 _ d hd
  exact ⟨v, by rw [← a1]; congr 1; omega, a2⟩

theorem CellsOk.other {cur : Array Value} {p q : Nat} {L : List DV} {vs : List Value} (h1 : CellsOk c cur q L) (hle : p + vs.length ≤ cur.size) (hd : q + L.length ≤ p ∨ p + vs.length ≤ q) : CellsOk c (spl cur p vs) q L := by
  intro j d hd'
  have hj := (List.getElem?_eq_some_iff.1 hd').1
  obtain ⟨v, a1, a2⟩ := h1 j d hd'
  refine ⟨v, ?_, a2⟩
  rw [spl_get hle]
  rcases hd with hd | hd
  · rw [if_pos (by omega)]; exact a1
  · rw [if_neg (by omega), if_neg (by omega)]; exact a1

theorem CellsOk.same {cur : Array Value} {p : Nat} {L : List DV} {vs : List Value} (hle : p + vs.length ≤ cur.size) (hl : L.length ≤ vs.length) (hv : ∀ (j : Nat) (d : DV) (v : Value), L[j]? = some d → vs[j]? = some v → v.oneCell' = true ∧ VR c d v) : CellsOk c (spl cur p vs) p L := by
  intro j d hd
  have hj := (List.getElem?_eq_some_iff.1 hd).1
  have hjv : j < vs.length := by omega
  refine ⟨vs[j], ?_, (hv j d _ hd (List.getElem?_eq_getElem hjv)).1, (hv j d _ hd (List.getElem?_eq_getElem hjv)).2⟩
  rw [spl_get hle, if_neg (by omega), if_pos (by omega), Nat.add_sub_cancel_left]
  exact List.getElem?_eq_getElem hjv

theorem storable_list {n : Nat} {d : DV} {v : Value} (hs : storable n d = true) (hv : VR c d v) : (ecells n d).length = n ∧ v.cells.toList.length = n ∧ (∀ u ∈ v.cells.toList, u.oneCell' = true) ∧
    ∀ (j : Nat) (e : DV) (u : Value), (ecells n d)[j]? = some e → v.cells.toList[j]? = some u → u.oneCell' = true ∧ VR c e u := by
  obtain ⟨s1, s2, s3⟩ := storable_cells hs hv
  refine ⟨s1, by simp [s2], fun u hu => ?_, fun j e u he hu => ?_⟩
  · obtain ⟨j, hj, hjv⟩ := List.getElem_of_mem hu
    have hj2 : j < v.cells.size := by simpa using hj
    have := (s3 j (by omega) hj2).2
    rw [← hjv]; simpa using this
  · obtain ⟨h1, rfl⟩ := List.getElem?_eq_some_iff.1 he
    obtain ⟨h2, rfl⟩ := List.getElem?_eq_some_iff.1 hu
    have hj2 : j < v.cells.size := by simpa using h2
    have := s3 j h1 hj2
    exact ⟨by simpa using this.2, by simpa using this.1⟩

theorem s_store {t : TypeId} {i : TypeInfo} {x y : Operand} {x' y' : Opd} (ho : o.op = .store t x y) (hi : P.info? t = some i) (hx : opd x = some x') (hy : opd y = some y') (hR : Rel h c) (hE : EnvR c env a)
    (hs : stepOp h env (.store i.size x' y') = some (r, h')) : Steps1 P h c o a h' r := by
  have vx := opd_VR hx hE
  have vy := opd_VR hy hE
  simp only [stepOp] at hs
  split at hs
  · rename_i h'' hst
    simp only [Option.some.injEq, Prod.mk.injEq] at hs
    obtain ⟨rfl, rfl⟩ := hs
    unfold storeP at hst
    split at hst
    · rename_i id sz idx off hv
      split at hst
      · rename_i ety sz' xs cap hg
        split at hst
        · rename_i hcond
          obtain ⟨hss, hlim, hstor, hoff⟩ := hcond
          subst hss
          split at hst
          · rename_i e he
            split at hst
            · rename_i hel
              cases hst
              rw [hv] at vx
              obtain ⟨b, base, hvx, hρ⟩ := vx.ptr_inv
              obtain ⟨cur, m, g1, g2, g3, g4, g5, g6⟩ := hR.arr hg hρ
              obtain ⟨s1, s2, s4, s3⟩ := storable_list hstor vy
              obtain ⟨hidx, hee⟩ := List.getElem?_eq_some_iff.1 he
              have hb1 : idx * sz + sz ≤ m * sz := by
                have : (idx + 1) * sz ≤ m * sz := Nat.mul_le_mul_right _ (by omega)
                rw [Nat.add_mul] at this; omega
              have hp : base + idx * sz + off + (a.eval y).cells.toList.length ≤ cur.size := by rw [s2]; omega
              have hrow := run_storeCells (P := P) g1 (a.eval y).cells.toList hp s4
              have hturn : ecells sz (turn sz off i.size e (y'.eval env)) = (ecells sz e).take off ++ ecells i.size (y'.eval env) ++ (ecells sz e).drop (off + i.size) := by
                unfold turn
                split
                · rename_i hc
                  obtain ⟨e1, e2⟩ := hc
                  subst e1
                  rw [e2]
                  simp [hel]
                · rfl
              obtain ⟨k1, k2⟩ := hR.write hg hρ g1 g2 g3 (xs.set idx (turn sz off i.size e (y'.eval env))) (by simp) g4 g5 (base + idx * sz + off) (a.eval y).cells.toList hp s4 (elemsR_iff.2 fun k d hk => by
                rw [List.getElem?_set] at hk
                have g6' := elemsR_iff.1 g6
                by_cases hki : idx = k
                · subst hki
                  rw [if_pos rfl, if_pos hidx] at hk
                  cases hk
                  obtain ⟨w1, w2⟩ := g6' idx e he
                  rw [hturn]
                  refine ⟨by simp only [List.length_append, List.length_take, List.length_drop, hel, s1]; omega, ?_⟩
                  have l1 : ((ecells sz e).take off).length = off := by rw [List.length_take, hel]; omega
                  refine CellsOk.append (CellsOk.append ?_ ?_) ?_
                  · exact (w2.take off).other hp (.inl (by rw [l1]; exact Nat.le_refl _))
                  · rw [l1]
                    exact CellsOk.same hp (by omega) s3
                  · rw [List.length_append, l1, s1]
                    have := (w2.drop (off + i.size)).other hp (.inr (by rw [s2]; omega))
                    simpa [Nat.add_assoc] using this
                · rw [if_neg hki] at hk
                  obtain ⟨w1, w2⟩ := g6' k d hk
                  refine ⟨w1, w2.other hp ?_⟩
                  rw [w1, s2]
                  rcases Nat.lt_or_gt_of_ne hki with hlt | hgt
                  · have : idx * sz + (sz - 1) < k * sz := mul_lt_of hlt (by omega)
                    right; omega
                  · have : k * sz + (sz - 1) < idx * sz := mul_lt_of hgt (by omega)
                    left; omega)
              refine ⟨.skip, undef, _, ?_, .inr ⟨rfl, rfl⟩, c.ρ, k1, k2, ?_⟩
              · have s2' : (a.eval y).cells.size = i.size := by simpa using s2
                simp [execOp, ho, hvx, Instr.storeAt, Instr.sureAddr, storeVar, sizeOf, typeInfo, hi, s2', hrow]
              · exact .tup (ds := []) (vs := []) rfl (fun i h1 _ => absurd h1 (by simp))
            · cases hst
          · cases hst
        · cases hst
      · cases hst
    · cases hst
  · cases hs

end
end Go.Dm
