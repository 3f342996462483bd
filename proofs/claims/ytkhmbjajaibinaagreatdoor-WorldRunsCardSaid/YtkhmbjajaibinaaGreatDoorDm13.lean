/-
Part 13 of "Dm": slices and structs that are built; maps.
-/
import Derived.Test.YtkhmbjajaibinaaGreatDoorDm12
namespace Go.Dm

section
variable {P : Program} {h h' : Heap} {c : Ctx} {env : Env} {a : Act} {o : Oper} {r : DV}

theorem foldl_spl : ∀ (l : List Value) (cells : Array Value) (off k : Nat), off + k + l.length ≤ cells.size →
    (l.zipIdx k).foldl (fun cs (x : Value × Nat) => cs.setIfInBounds (off + x.2) x.1) cells = spl cells (off + k) l
  | [], cells, off, k, _ => by simp [spl]
  | x :: l, cells, off, k, hle => by
    simp only [List.length_cons] at hle
    simp only [List.zipIdx_cons, List.foldl_cons]
    rw [foldl_spl l _ off (k + 1) (by simp; omega)]
    apply Array.ext_getElem?
    intro q
    rw [spl_get (by simp; omega), spl_get (by simp; omega)]
    simp only [List.length_cons]
    by_cases h1 : q < off + k
    · rw [if_pos (by omega), if_pos h1, Array.getElem?_setIfInBounds_ne (by omega)]
    · by_cases h2 : q = off + k
      · subst h2
        rw [if_pos (by omega), if_neg (by omega), if_pos (by omega), Array.getElem?_setIfInBounds_self]
        rw [if_pos (by omega)]
        simp
      · by_cases h3 : q < off + k + (l.length + 1)
        · rw [if_neg (by omega), if_pos (by omega), if_neg h1, if_pos h3]
          rw [show q - (off + k) = (q - (off + (k + 1))) + 1 by omega]
          simp
        · rw [if_neg (by omega), if_neg (by omega), if_neg h1, if_neg h3, Array.getElem?_setIfInBounds_ne (by omega)]

theorem fold_cells {v : Value} {cells : Array Value} {off : Nat} (hle : off + v.cells.size ≤ cells.size) :
    v.cells.zipIdx.foldl (fun cs (x : Value × Nat) => cs.setIfInBounds (off + x.2) x.1) cells = spl cells off v.cells.toList := by
  rw [← Array.foldl_toList, Array.toList_zipIdx]
  have := foldl_spl v.cells.toList cells off 0 (by simpa using hle)
  simpa using this

/-- Parts laid into cells. -/
theorem fill_sound (place : Nat → Option (Nat × Nat)) : ∀ (ps : List (Nat × Value)) (ds : List (Nat × Nat × DV)) (cells : Array Value) (cs cs' : List DV), ps.length = ds.length →
    (∀ (i : Nat) (p : Nat × Value) (d : Nat × Nat × DV), ps[i]? = some p → ds[i]? = some d → place p.1 = some (d.1, d.2.1) ∧ VR c d.2.2 p.2) →
    CellsOk c cells 0 cs → cells.size = cs.length → fillCells cs ds = some cs' → ∃ cells', Instr.fill place cells ps = some cells' ∧ CellsOk c cells' 0 cs' ∧ cells'.size = cs'.length ∧ cs'.length = cs.length
  | [], ds, cells, cs, cs', hl, _, hc, hsz, hf => by
    cases ds with
    | nil => simp only [fillCells] at hf; cases hf; exact ⟨cells, rfl, hc, hsz, rfl⟩
    | cons d ds => simp at hl
  | p :: ps, ds, cells, cs, cs', hl, hp, hc, hsz, hf => by
    cases ds with
    | nil => simp at hl
    | cons d ds =>
      obtain ⟨off, n, dv⟩ := d
      obtain ⟨i, v⟩ := p
      simp only [fillCells] at hf
      split at hf
      · rename_i hcond
        obtain ⟨hst, hle⟩ := hcond
        obtain ⟨hpl, hv⟩ := hp 0 (i, v) (off, n, dv) rfl rfl
        simp only at hpl hv
        obtain ⟨s1, s2, s4, s3⟩ := storable_list hst hv
        have s2' : v.cells.size = n := by simpa using s2
        have hle' : off + v.cells.toList.length ≤ cells.size := by rw [s2]; omega
        have l1 : (cs.take off).length = off := by rw [List.length_take]; omega
        have hc' : CellsOk c (spl cells off v.cells.toList) 0 (cs.take off ++ ecells n dv ++ cs.drop (off + n)) := by
          refine CellsOk.append (CellsOk.append ?_ ?_) ?_
          · exact (hc.take off).other hle' (.inl (by rw [l1]; omega))
          · rw [l1, Nat.zero_add]
            exact CellsOk.same hle' (by omega) s3
          · rw [List.length_append, l1, s1]
            exact (hc.drop (off + n)).other hle' (.inr (by rw [s2]; omega))
        have hlen' : (cs.take off ++ ecells n dv ++ cs.drop (off + n)).length = cs.length := by simp only [List.length_append, List.length_take, List.length_drop, s1]; omega
        obtain ⟨cells', k1, k2, k3, k4⟩ := fill_sound place ps ds (spl cells off v.cells.toList) _ cs' (by simpa using hl) (fun j p' d' h1 h2 => hp (j + 1) p' d' (by simpa using h1) (by simpa using h2)) hc' (by rw [spl_size hle', hlen']; exact hsz) hf
        refine ⟨cells', ?_, k2, k3, by rw [k4, hlen']⟩
        have hneg : (decide (v.cells.size ≠ n) || decide (off + v.cells.size > cells.size)) = false := by simp [s2']; omega
        simp only [Instr.fill, hpl]
        rw [if_neg (by rw [hneg]; simp)]
        rw [← k1]
        congr 1
        exact fold_cells (by omega)
      · cases hf

theorem rowOk_one {sz : Nat} {d : DV} {v : Value} (hst : storable sz d = true) (hv : VR c d v) : RowOk c sz [d] v.cells.toList := by
  obtain ⟨s1, s2, s4, s3⟩ := storable_list hst hv
  refine ⟨by rw [s2]; simp, s4, fun i e he => ?_⟩
  have hi : i = 0 := by
    have := (List.getElem?_eq_some_iff.1 he).1
    simpa using this
  subst hi
  simp only [List.getElem?_cons_zero, Option.some.injEq] at he
  subst he
  refine ⟨s1, fun j e he => ?_⟩
  have hj := (List.getElem?_eq_some_iff.1 he).1
  have hj2 : j < v.cells.toList.length := by omega
  exact ⟨v.cells.toList[j], by rw [Nat.zero_mul, Nat.zero_add]; exact List.getElem?_eq_getElem hj2, (s3 j e _ he (List.getElem?_eq_getElem hj2)).2⟩

theorem splice_one {xs : List DV} {d : DV} {i : Nat} (hi : i < xs.length) : splice xs [d] i = xs.set i d := by
  rw [List.set_eq_take_append_cons_drop, if_pos hi]
  simp [splice]

theorem fillE_sound {sz : Nat} : ∀ (ps : List (Nat × Value)) (ds : List (Nat × DV)) (cells : Array Value) (xs xs' : List DV), ps.length = ds.length →
    (∀ (i : Nat) (p : Nat × Value) (d : Nat × DV), ps[i]? = some p → ds[i]? = some d → p.1 = d.1 ∧ VR c d.2 p.2) →
    ElemsR c xs sz cells 0 → cells.size = xs.length * sz → fillElems sz xs ds = some xs' → ∃ cells', Instr.fill (fun i => some (i * sz, sz)) cells ps = some cells' ∧ ElemsR c xs' sz cells' 0 ∧ cells'.size = xs'.length * sz ∧ xs'.length = xs.length
  | [], ds, cells, xs, xs', hl, _, hc, hsz, hf => by
    cases ds with
    | nil => simp only [fillElems] at hf; cases hf; exact ⟨cells, rfl, hc, hsz, rfl⟩
    | cons d ds => simp at hl
  | p :: ps, ds, cells, xs, xs', hl, hp, hc, hsz, hf => by
    cases ds with
    | nil => simp at hl
    | cons d ds =>
      obtain ⟨k, dv⟩ := d
      obtain ⟨i, v⟩ := p
      simp only [fillElems] at hf
      split at hf
      · rename_i hcond
        obtain ⟨hst, hlt⟩ := hcond
        obtain ⟨hpl, hv⟩ := hp 0 (i, v) (k, dv) rfl rfl
        simp only at hpl hv
        subst hpl
        obtain ⟨s1, s2, s4, s3⟩ := storable_list hst hv
        have s2' : v.cells.size = sz := by simpa using s2
        obtain ⟨hfit, hel⟩ := elems_spliced (m := xs.length) hc (by rw [hsz, Nat.zero_add]) (Nat.le_refl _) (rowOk_one hst hv) (k := i) (by simp only [List.length_cons, List.length_nil]; omega)
        rw [splice_one hlt, Nat.zero_add] at hel
        rw [Nat.zero_add] at hfit
        obtain ⟨cells', k1, k2, k3, k4⟩ := fillE_sound ps ds (spl cells (i * sz) v.cells.toList) _ xs' (by simpa using hl) (fun j p' d' h1 h2 => hp (j + 1) p' d' (by simpa using h1) (by simpa using h2)) hel (by rw [spl_size hfit, List.length_set]; exact hsz) hf
        refine ⟨cells', ?_, k2, k3, by rw [k4, List.length_set]⟩
        have hneg : (decide (v.cells.size ≠ sz) || decide (i * sz + v.cells.size > cells.size)) = false := by simp [s2']; rw [Array.length_toList, s2'] at hfit; exact hfit
        simp only [Instr.fill]
        rw [if_neg (by rw [hneg]; simp)]
        rw [← k1]
        congr 1
        exact fold_cells (by rw [Array.length_toList] at hfit; exact hfit)
      · cases hf

theorem run_buildSlice' (w : World) (t e : TypeId) (len : Nat) (parts : Array (Nat × Value)) (cells : Array Value) (ie : TypeInfo) (z : Value)
    (hu : P.underlying t = some (.slice e)) (hie : P.info? e = some ie) (hz : ie.zero = some z) (hsmall : ¬ len * ie.size > 2 ^ 24) (hpos : ¬ len * ie.size = 0)
    (h : Instr.fill (fun i => some (i * ie.size, ie.size)) ((Array.range (len * ie.size)).map (z.cells[· % z.cells.size]!)) parts.toList = some cells) :
    (Instr.buildSlice t len parts).run P w = .ok (.slice (some ⟨w.heap.size, 0, none⟩) len len) (w.alloc (.cells cells e)) := by
  simp [Instr.buildSlice, run_underlying hu, sizeOf, typeInfo, zeroValue, hie, hz, hsmall, hpos, h, newRow]

/-- A row laid out: the run. -/
theorem run_built {t e : TypeId} {sz bytes len : Nat} {z : DV} {parts : Array (Nat × Operand)} {ps : List (Nat × Opd)} (ho : o.op = .buildSlice t len parts) (ht : P.underlying t = some (.slice e)) (he : elemOf' P e = some (sz, bytes, z))
    (hp : parts.toList.mapM (fun (x : Nat × Operand) => (opd x.2).map fun y => (x.1, y)) = some ps) (hsmall : len * sz ≤ 16777216) (hE : EnvR c env a) {xs : List DV} (hxs : fillElems sz (List.replicate len z) (ps.map fun p => (p.1, p.2.eval env)) = some xs) :
    ∃ w' cur, (execOp a.eval o).run P c.w = .ok (.value (.slice (some ⟨c.w.heap.size, 0, none⟩) len len)) w' ∧ w'.heap = c.w.heap.push (.cells cur e (0, 0)) ∧ (w'.os = c.w.os ∧ w'.output = c.w.output) ∧ 0 < sz ∧ cur.size = xs.length * sz ∧ OneRow cur ∧ ElemsR c xs sz cur 0 := by
  obtain ⟨i, z0, hi, e1, e2, hz, hzd, hsz, hst⟩ := elem_facts he
  subst e1; subst e2
  obtain ⟨s1, s2, s3⟩ := storable_cells hst (constD_VR hzd c)
  have hl := mapM_length _ _ _ hp
  have hrow := rowOk_zeros (c := c) (n := len) hsz hst (constD_VR hzd c)
  have hel := hrow.toElems (cur := Builtin.zeroCells z0.cells len) (base := 0) (fun j u hj => by rw [Nat.zero_add]; simpa using hj)
  obtain ⟨cells', k1, k2, k3, k4⟩ := fillE_sound (c := c) (sz := i.size) (parts.map fun (x : Nat × Operand) => (x.1, a.eval x.2)).toList (ps.map fun p => (p.1, p.2.eval env)) (Builtin.zeroCells z0.cells len) _ xs (by simp [hl])
    (fun j p d h1 h2 => by
      simp only [Array.toList_map, List.getElem?_map, Option.map_eq_some_iff] at h1 h2
      obtain ⟨p0, p1, rfl⟩ := h1
      obtain ⟨d0, d1, rfl⟩ := h2
      obtain ⟨q1, q2⟩ := List.getElem?_eq_some_iff.1 p1
      obtain ⟨q3, q4⟩ := List.getElem?_eq_some_iff.1 d1
      have := mapM_get _ _ _ hp j q1 q3
      rw [q2, q4] at this
      simp only [Option.map_eq_some_iff] at this
      obtain ⟨y, hy, rfl⟩ := this
      exact ⟨rfl, opd_VR hy hE⟩) hel (by rw [zeroCells_size, s2]; simp) hxs
  have hlen : xs.length = len := by rw [k4]; simp
  refine ⟨{ c.w with heap := c.w.heap.push (.cells cells' e) }, cells', ?_, rfl, ⟨rfl, rfl⟩, hsz, k3, oneRow_full (m := len) k2 hsz (by rw [k3, hlen]) hlen, k2⟩
  have hzr : (Array.range (len * i.size)).map (z0.cells[· % z0.cells.size]!) = Builtin.zeroCells z0.cells len := by rw [← s2]; rfl
  have hns : ¬ (len * i.size > 2 ^ 24) := by omega
  by_cases h0 : len * i.size = 0
  · have hze : Builtin.zeroCells z0.cells len = #[] := by apply Array.eq_empty_of_size_eq_zero; rw [zeroCells_size, s2]; exact h0
    rw [hze] at k1
    simp only [execOp, ho, Instr.buildSlice, Sem.run_bind, run_underlying ht, Result.andThen_ok, sizeOf, typeInfo, run_program, hi, Sem.run_pure, h0, if_true]
    rw [show Array.range 0 = #[] from by apply Array.eq_empty_of_size_eq_zero; simp]
    simp only [Array.map_empty]
    rw [k1]
    simp [newRow]
  · have := run_buildSlice' (P := P) c.w t e len (parts.map fun (x : Nat × Operand) => (x.1, a.eval x.2)) cells' i z0 ht hi hz hns h0 (by rw [hzr]; exact k1)
    simp [execOp, ho, this]

theorem s_buildSlice {t e : TypeId} {sz bytes len : Nat} {z : DV} {parts : Array (Nat × Operand)} {ps : List (Nat × Opd)} (ho : o.op = .buildSlice t len parts) (ht : P.underlying t = some (.slice e)) (he : elemOf' P e = some (sz, bytes, z))
    (hp : parts.toList.mapM (fun (x : Nat × Operand) => (opd x.2).map fun y => (x.1, y)) = some ps) (hsmall : len * sz ≤ 16777216) (hR : Rel h c) (hE : EnvR c env a) (hs : stepOp h env (.buildSlice e sz z len ps) = some (r, h')) : Steps1 P h c o a h' r := by
  simp only [stepOp] at hs
  split at hs
  · rename_i xs hxs
    simp only [Option.some.injEq, Prod.mk.injEq] at hs
    obtain ⟨rfl, rfl⟩ := hs
    obtain ⟨w', cur, r1, r2, r3, hsz, r4, r5, r6⟩ := run_built (P := P) (o := o) (c := c) (env := env) (a := a) ho ht he hp hsmall hE hxs
    have hlen : xs.length = len := by
      have key : ∀ (ps : List (Nat × DV)) (xs ys : List DV), fillElems sz xs ps = some ys → ys.length = xs.length := by
        intro ps
        induction ps with
        | nil => intro xs ys h; simp only [fillElems] at h; cases h; rfl
        | cons p ps ih =>
          intro xs ys h
          obtain ⟨i, v⟩ := p
          simp only [fillElems] at h
          split at h
          · rw [ih _ _ h, List.length_set]
          · cases h
      rw [key _ _ _ hxs]; simp
    obtain ⟨ρ', j1, j2, j3, j4⟩ := new_arr hR w' (m := len) (cap := some len) (xs := xs) r2 hsz (by rw [r4, hlen]) (by omega) (fun k hk => by cases hk; exact ⟨rfl, hlen⟩) r5 r6 r3
    exact ⟨.value (.slice (some ⟨c.w.heap.size, 0, none⟩) len len), _, w', r1, .inl rfl, ρ', j1, j2, .sl j3 j4 (by simp) (Nat.le_refl _) (.inl (by simp))⟩
  · cases hs

theorem built_sound {place : Nat → Option (Nat × Nat)} {parts : Array (Nat × Operand)} {ps : List (Nat × Nat × Opd)} {z0 : Value} {zs cs : List DV} (hzd : constD z0 = some (.agg zs)) (hE : EnvR c env a)
    (hl : parts.size = ps.length) (hp : ∀ (j : Nat) (p : Nat × Operand) (d : Nat × Nat × Opd), parts.toList[j]? = some p → ps[j]? = some d → place p.1 = some (d.1, d.2.1) ∧ opd p.2 = some d.2.2)
    (hf : fillCells zs (ps.map fun p => (p.1, p.2.1, p.2.2.eval env)) = some cs) : ∃ cells, Instr.fill place z0.cells (parts.map fun (x : Nat × Operand) => (x.1, a.eval x.2)).toList = some cells ∧ VR c (.agg cs) (.agg cells) := by
  have hvz := constD_VR hzd c
  obtain ⟨vs, rfl, h1, h2, h3⟩ := hvz.agg_inv
  have hcells : CellsOk c (Value.cells (.agg vs.toArray)) 0 zs := by
    intro j d hd
    obtain ⟨hj, rfl⟩ := List.getElem?_eq_some_iff.1 hd
    have hj' : j < vs.length := by omega
    exact ⟨vs[j], by simp [Value.cells, hj'], h2 j hj', h3 j hj hj'⟩
  obtain ⟨cells', k1, k2, k3, k4⟩ := fill_sound (c := c) place (parts.map fun (x : Nat × Operand) => (x.1, a.eval x.2)).toList (ps.map fun p => (p.1, p.2.1, p.2.2.eval env)) (Value.cells (.agg vs.toArray)) zs cs (by simp [hl])
    (fun j p d g1 g2 => by
      simp only [Array.toList_map, List.getElem?_map, Option.map_eq_some_iff] at g1 g2
      obtain ⟨p0, p1, rfl⟩ := g1
      obtain ⟨d0, d1, rfl⟩ := g2
      obtain ⟨q1, q2⟩ := hp j p0 d0 p1 d1
      exact ⟨q1, opd_VR q2 hE⟩) hcells (by simp [Value.cells, h1]) hf
  refine ⟨cells', k1, ?_⟩
  have key : VR c (.agg cs) (.agg cells'.toList.toArray) := .agg (by simp [k3]) (fun j hj => ?_) (fun j hj1 hj2 => ?_)
  · simpa using key
  · have hj' : j < cs.length := by rw [← k3]; simpa using hj
    obtain ⟨v, a1, a2, a3⟩ := k2 j _ (List.getElem?_eq_getElem hj')
    rw [Nat.zero_add] at a1
    obtain ⟨b1, b2⟩ := Array.getElem?_eq_some_iff.1 a1
    simp only [Array.getElem_toList]
    rw [b2]; exact a2
  · obtain ⟨v, a1, a2, a3⟩ := k2 j _ (List.getElem?_eq_getElem hj1)
    rw [Nat.zero_add] at a1
    obtain ⟨b1, b2⟩ := Array.getElem?_eq_some_iff.1 a1
    simp only [Array.getElem_toList]
    rw [b2]; exact a3

theorem s_buildStruct {t : TypeId} {sz bytes : Nat} {zs : List DV} {fs : Array Field} {parts : Array (Nat × Operand)} {ps : List (Nat × Nat × Opd)} (ho : o.op = .build t parts) (ht : P.underlying t = some (.struct fs)) (he : elemOf' P t = some (sz, bytes, .agg zs))
    (hp : parts.toList.mapM (fun (x : Nat × Operand) => match fs[x.1]?, opd x.2 with
        | some f, some y => (match P.info? f.type with | some fi => some (f.offset, fi.size, y) | none => none)
        | _, _ => none) = some ps) (hall : fs.toList.all (fun f => (P.info? f.type).isSome) = true) (_hR : Rel h c) (hE : EnvR c env a) (hs : stepOp h env (.build zs ps) = some (r, h')) : Steps0 P h c o a h' r := by
  obtain ⟨i, z0, hi, e1, e2, hz, hzd, hsz, hst⟩ := elem_facts he
  simp only [stepOp] at hs
  split at hs
  · rename_i cs hcs
    simp only [Option.some.injEq, Prod.mk.injEq] at hs
    obtain ⟨rfl, rfl⟩ := hs
    have hl := mapM_length _ _ _ hp
    obtain ⟨places, hpl⟩ : ∃ places, fs.toList.mapM (fun f => (P.info? f.type).map fun i => (f.offset, i.size)) = some places := by
      have : ∀ l : List Field, l.all (fun f => (P.info? f.type).isSome) = true → ∃ places, l.mapM (fun f => (P.info? f.type).map fun i => (f.offset, i.size)) = some places := by
        intro l
        induction l with
        | nil => intro _; exact ⟨[], rfl⟩
        | cons f l ih =>
          intro hh
          simp only [List.all_cons, Bool.and_eq_true] at hh
          obtain ⟨pl, hpl⟩ := ih hh.2
          obtain ⟨fi, hfi⟩ := Option.isSome_iff_exists.1 hh.1
          exact ⟨(f.offset, fi.size) :: pl, by simp [List.mapM_cons, hfi, hpl]⟩
      exact this _ hall
    have hpll := mapM_length _ _ _ hpl
    obtain ⟨cells, k1, k2⟩ := built_sound (c := c) (a := a) (env := env) (place := (places.toArray[·]?)) (parts := parts) (ps := ps) hzd hE (by simpa using hl.symm) (fun j p d g1 g2 => by
      obtain ⟨q1, q2⟩ := List.getElem?_eq_some_iff.1 g1
      obtain ⟨q3, q4⟩ := List.getElem?_eq_some_iff.1 g2
      have := mapM_get _ _ _ hp j q1 q3
      rw [q2, q4] at this
      split at this
      · rename_i f y hf hy
        split at this
        · rename_i fi hfi
          cases this
          obtain ⟨w1, w2⟩ := Array.getElem?_eq_some_iff.1 hf
          have w3 : p.1 < fs.toList.length := by simpa using w1
          have := mapM_get _ _ _ hpl p.1 w3 (by omega)
          have w4 : fs.toList[p.1] = f := by simpa using w2
          rw [w4, hfi] at this
          simp only [Option.map_some, Option.some.injEq] at this
          refine ⟨?_, hy⟩
          simp only [List.getElem?_toArray]
          rw [List.getElem?_eq_getElem (by omega), ← this]
        · cases this
      · cases this) hcs
    have hb : P.built t (parts.map fun (x : Nat × Operand) => (x.1, a.eval x.2)).toList = some cells := by
      simp only [Program.built, hi, ht, hz, hpl]
      exact k1
    exact Steps0.value (.agg cells) (by simp [execOp, ho, run_build c.w t _ cells hb]) k2
  · cases hs

theorem s_buildArray {t e : TypeId} {n sz bytes esz ebytes : Nat} {zs : List DV} {ez : DV} {parts : Array (Nat × Operand)} {ps : List (Nat × Nat × Opd)} (ho : o.op = .build t parts) (ht : P.underlying t = some (.array n e)) (he : elemOf' P t = some (sz, bytes, .agg zs)) (hee : elemOf' P e = some (esz, ebytes, ez))
    (hp : parts.toList.mapM (fun (x : Nat × Operand) => (opd x.2).map fun y => (x.1 * esz, esz, y)) = some ps) (_hR : Rel h c) (hE : EnvR c env a) (hs : stepOp h env (.build zs ps) = some (r, h')) : Steps0 P h c o a h' r := by
  obtain ⟨i, z0, hi, e1, e2, hz, hzd, hsz, hst⟩ := elem_facts he
  obtain ⟨ie, ze, hie, g1, g2, hze, _, _, _⟩ := elem_facts hee
  simp only [stepOp] at hs
  split at hs
  · rename_i cs hcs
    simp only [Option.some.injEq, Prod.mk.injEq] at hs
    obtain ⟨rfl, rfl⟩ := hs
    have hl := mapM_length _ _ _ hp
    obtain ⟨cells, k1, k2⟩ := built_sound (c := c) (a := a) (env := env) (place := fun i => some (i * esz, esz)) (parts := parts) (ps := ps) hzd hE (by simpa using hl.symm) (fun j p d g1 g2 => by
      obtain ⟨q1, q2⟩ := List.getElem?_eq_some_iff.1 g1
      obtain ⟨q3, q4⟩ := List.getElem?_eq_some_iff.1 g2
      have := mapM_get _ _ _ hp j q1 q3
      rw [q2, q4] at this
      simp only [Option.map_eq_some_iff] at this
      obtain ⟨y, hy, rfl⟩ := this
      exact ⟨rfl, hy⟩) hcs
    have hb : P.built t (parts.map fun (x : Nat × Operand) => (x.1, a.eval x.2)).toList = some cells := by
      simp only [Program.built, hi, ht, hz, hie, g1]
      exact k1
    exact Steps0.value (.agg cells) (by simp [execOp, ho, run_build c.w t _ cells hb]) k2
  · cases hs

end
end Go.Dm
