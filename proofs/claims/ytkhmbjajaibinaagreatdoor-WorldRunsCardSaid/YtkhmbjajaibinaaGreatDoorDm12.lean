/-
Part 12 of "Dm": copy, clear, make, slices and structs that are built.
-/
import Derived.Test.YtkhmbjajaibinaaGreatDoorDm11
namespace Go.Dm

section
variable {P : Program} {h h' : Heap} {c : Ctx} {env : Env} {a : Act} {o : Oper} {r : DV}

theorem RowOk.take {sz : Nat} {ys : List DV} {vs : List Value} (h1 : RowOk c sz ys vs) (n : Nat) : RowOk c sz (ys.take n) (vs.take (n * sz)) := by
  refine ⟨?_, fun u hu => h1.2.1 u (List.mem_of_mem_take hu), fun i d hd => ?_⟩
  · rw [List.length_take, List.length_take, h1.1]
    rcases Nat.le_total n ys.length with hle | hle
    · rw [Nat.min_eq_left hle, Nat.min_eq_left (Nat.mul_le_mul_right _ hle)]
    · rw [Nat.min_eq_right hle, Nat.min_eq_right (Nat.mul_le_mul_right _ hle)]
  · rw [List.getElem?_take] at hd
    split at hd
    · rename_i hi
      obtain ⟨a1, a2⟩ := h1.2.2 i d hd
      refine ⟨a1, fun j e he => ?_⟩
      obtain ⟨u, b1, b2⟩ := a2 j e he
      have hj := (List.getElem?_eq_some_iff.1 he).1
      rw [a1] at hj
      exact ⟨u, by rw [List.getElem?_take, if_pos (mul_lt_of hi hj)]; exact b1, b2⟩
    · cases hd

/-- Elements laid over a slice's own. -/
theorem copyD_sound (hR : Rel h c) {sz : Nat} {d : DV} {v : Value} {ys : List DV} {news : List Value} (hv : VR c d v) (hrow : RowOk c sz ys news) (hs : copyD h sz d ys = some (r, h')) :
    ∃ base dLen dCap, v = .slice base dLen dCap ∧ r = .int .i64 (Nat.min ys.length dLen : Nat) ∧ (base = none → dLen = 0) ∧
      ∃ w', (∀ adr, base = some adr → (storeCells adr (news.take (Nat.min ys.length dLen * sz))).run P c.w = .ok () w') ∧ (base = none → w' = c.w) ∧ Post h c h' w' r (goInt (Nat.min ys.length dLen : Nat)) := by
  unfold copyD at hs
  split at hs
  · cases hs
    obtain ⟨ad, e⟩ := hv.nsl_inv
    exact ⟨ad, 0, 0, e, by simp, fun _ => rfl, c.w, (fun adr _ => by simp [storeCells]), fun _ => rfl, by simpa [goInt] using Post.pure hR (.int .i64 0)⟩
  · rename_i id sz' off len
    split at hs
    · rename_i ety sz'' xs cap hg
      split at hs
      · rename_i hcond
        obtain ⟨e1, e2, hle, hlim⟩ := hcond
        subst e1; subst e2
        cases hs
        obtain ⟨b, base, cap', coff, nn, ety', hvx, hρ, hshape, hmm, hlc, hco⟩ := hv.sl_inv
        obtain ⟨cur, mm, g1, g2, g3, g4, g5, g6⟩ := hR.arr hg hρ
        have hln : (ys.take len).length = Nat.min ys.length len := by rw [List.length_take, Nat.min_comm]
        have hrow' := hrow.take len
        have htake : news.take (len * sz) = news.take (Nat.min ys.length len * sz) := by
          rcases Nat.le_total ys.length len with hl | hl
          · have e1 : Nat.min ys.length len = ys.length := Nat.min_eq_left hl
            rw [e1, List.take_of_length_le (by rw [hrow.1]; exact Nat.mul_le_mul_right _ hl), List.take_of_length_le (by rw [hrow.1]; exact Nat.le_refl _)]
          · have e1 : Nat.min ys.length len = len := Nat.min_eq_right hl
            rw [e1]
        obtain ⟨hfit, hel⟩ := elems_spliced g6 g3 g4 hrow' (k := off) (by have := List.length_take_le len ys; omega)
        obtain ⟨k1, k2⟩ := hR.write hg hρ g1 g2 g3 (splice xs (ys.take len) off) (splice_length (by have := List.length_take_le len ys; omega)) g4 g5 (base + off * sz) (news.take (len * sz)) hfit (fun v hv => hrow.2.1 v (List.mem_of_mem_take hv)) hel
        refine ⟨some ⟨b, coff, none⟩, len, cap', hvx, by rw [hln], (fun h => by cases h), c.w.setRow b (spl cur (base + off * sz) (news.take (len * sz))), fun adr hadr => ?_, (fun h => by cases h), c.ρ, k1, k2, by rw [hln]; exact .int _ _⟩
        cases hadr
        rw [← htake]
        by_cases hl0 : len = 0
        · subst hl0
          have hcell : news.take (0 * sz) = [] := by simp
          rw [hcell]
          have hself : c.w.setRow b (spl cur (base + off * sz) []) = c.w := by
            have : spl cur (base + off * sz) [] = cur := by simp [spl]
            rw [this]
            exact setRow_self c.w b cur ety (0, 0) g1
          rw [hself]
          rfl
        · have hcoff : coff = base + off * sz := hco.elim (fun e => e) (fun e => by omega)
          rw [hcoff]
          exact run_storeCells (P := P) g1 _ hfit hrow'.2.1
      · cases hs
    · cases hs
  · cases hs

theorem s_copy {t u e : TypeId} {i : TypeInfo} {d s : Operand} {d' s' : Opd} (ho : o.op = .call { callee := .builtin .copy, args := #[d, s], argTypes := #[t, u] }) (ht : P.underlying t = some (.slice e)) (hi : P.info? e = some i)
    (hd : opd d = some d') (hs' : opd s = some s') (hR : Rel h c) (hE : EnvR c env a) (hs : stepOp h env (.copy i.size d' s') = some (r, h')) : Steps1 P h c o a h' r := by
  have vd := opd_VR hd hE
  have vs := opd_VR hs' hE
  simp only [stepOp] at hs
  split at hs
  · rename_i ys hys
    obtain ⟨ad, cap, news, q1, q2, q3, q4, q5⟩ := elems_sound hR hys vs
    obtain ⟨base, dLen, dCap, p1, p2, p3, w', p4, p5, p6⟩ := copyD_sound (P := P) hR vd q3 hs
    refine ⟨.value (goInt (Nat.min ys.length dLen : Nat)), _, w', ?_, .inl rfl, p6⟩
    rw [exec_builtin ho]
    have hf : (Builtin.firstCells i.size (Nat.min ys.length dLen) (.slice ad ys.length cap)).run P c.w = .ok (news.take (Nat.min ys.length dLen * i.size)).toArray c.w := by
      cases ad with
      | none =>
        have := q4 rfl
        subst this
        have hn : news = [] := List.eq_nil_of_length_eq_zero (by simpa using q3.1)
        subst hn
        simp [Builtin.firstCells]
      | some adr =>
        refine run_firstCells_some c.w i.size _ adr ys.length cap _ ?_ (fun j v hj => ?_)
        · rw [List.length_take, q3.1]
          exact Nat.min_eq_left (Nat.mul_le_mul_right _ (Nat.min_le_left _ _))
        · rw [List.getElem?_take] at hj
          split at hj
          · exact q5 adr rfl j v hj
          · cases hj
    cases base with
    | none =>
      have := p5 rfl
      subst this
      simp [builtin, Builtin.copy_, run_underlying ht, p1, q1, Builtin.lenOf, sizeOf, typeInfo, hi, hf]
    | some adr =>
      have := p4 adr rfl
      simp [builtin, Builtin.copy_, run_underlying ht, p1, q1, Builtin.lenOf, sizeOf, typeInfo, hi, hf, this]
  · cases hs

theorem s_clear {t e : TypeId} {sz bytes : Nat} {z : DV} {x : Operand} {x' : Opd} (ho : o.op = .call { callee := .builtin .clear, args := #[x], argTypes := #[t] }) (ht : P.underlying t = some (.slice e)) (he : elemOf' P e = some (sz, bytes, z))
    (hx : opd x = some x') (hR : Rel h c) (hE : EnvR c env a) (hs : stepOp h env (.clear sz z x') = some (r, h')) : Steps1 P h c o a h' r := by
  have vx := opd_VR hx hE
  obtain ⟨i, z0, hi, e1, e2, hz, hzd, hsz, hst⟩ := elem_facts he
  have hun : VR c (.tup []) (.tuple #[]) := .tup (ds := []) (vs := []) rfl (fun i h1 _ => absurd h1 (by simp))
  simp only [stepOp] at hs
  split at hs
  · rename_i hv
    cases hs
    rw [hv] at vx
    obtain ⟨ad, hvx⟩ := vx.nsl_inv
    exact Steps1.value hR (.tuple #[]) (by rw [exec_builtin ho]; cases ad <;> simp [builtin, Builtin.clear_, run_underlying ht, hvx]) hun
  · rename_i hv
    cases hs
    rw [hv] at vx
    rcases vx.isl_inv with ⟨_, ad, cap, hvx⟩ | ⟨b, o', cap, vals, hvx, _⟩
    · exact Steps1.value hR (.tuple #[]) (by rw [exec_builtin ho]; cases ad <;> simp [builtin, Builtin.clear_, run_underlying ht, hvx]) hun
    · exact Steps1.value hR (.tuple #[]) (by rw [exec_builtin ho]; simp [builtin, Builtin.clear_, run_underlying ht, hvx]) hun
  · rename_i id sz' off len hv
    rw [hv] at vx
    split at hs
    · rename_i hl
      cases hs
      subst hl
      obtain ⟨b, base, cap', coff, nn, ety', hvx, _⟩ := vx.sl_inv
      exact Steps1.value hR (.tuple #[]) (by rw [exec_builtin ho]; simp [builtin, Builtin.clear_, run_underlying ht, hvx]) hun
    · rename_i hl
      split at hs
      · rename_i r' h'' hc
        cases hs
        obtain ⟨base, dLen, dCap, p1, p2, p3, w', p4, p5, ρ', p6, p7, p8⟩ := copyD_sound (P := P) hR vx (rowOk_zeros (c := c) (n := len) hsz hst (constD_VR hzd c)) hc
        obtain ⟨b, base', cap', coff, nn, ety', hvx, _⟩ := vx.sl_inv
        rw [hvx] at p1
        simp only [Value.slice.injEq] at p1
        obtain ⟨pa, pb, pc⟩ := p1
        subst pa; subst pb; subst pc
        have hmin : Nat.min (List.replicate len z).length len = len := by simp
        rw [hmin] at p4
        have hrun := p4 _ rfl
        obtain ⟨_, hz2, _⟩ := storable_cells hst (constD_VR hzd c)
        have hfull : (Builtin.zeroCells z0.cells len).toList.take (len * sz) = (Builtin.zeroCells z0.cells len).toList := List.take_of_length_le (by simp [zeroCells_size, hz2])
        rw [hfull] at hrun
        refine ⟨.value (.tuple #[]), _, w', ?_, .inl rfl, ρ', p6, p7, .tup (ds := []) (vs := []) rfl (fun i h1 _ => absurd h1 (by simp))⟩
        rw [exec_builtin ho]
        have hl' : ∃ k, len = k + 1 := ⟨len - 1, by omega⟩
        obtain ⟨k, rfl⟩ := hl'
        simp [builtin, Builtin.clear_, run_underlying ht, hvx, zeroValue, typeInfo, hi, hz, hrun]
      · cases hs
  · cases hs

/-- A row of zeros is made. -/
theorem zeros_row {z : Array Value} {n : Nat} : (Array.range (n * z.size)).map (z[· % z.size]!) = Builtin.zeroCells z n := rfl

theorem s_makeSlice {t e : TypeId} {sz bytes : Nat} {z : DV} {l m : Operand} {l' m' : Opd} (ho : o.op = .makeSlice t l m) (ht : P.underlying t = some (.slice e)) (he : elemOf' P e = some (sz, bytes, z))
    (hl : opd l = some l') (hm : opd m = some m') (hR : Rel h c) (hE : EnvR c env a) (hs : stepOp h env (.makeSlice e sz bytes z l' m') = some (r, h')) : Steps1 P h c o a h' r := by
  have vl := opd_VR hl hE
  have vm := opd_VR hm hE
  obtain ⟨i, z0, hi, e1, e2, hz, hzd, hsz, hst⟩ := elem_facts he
  subst e1; subst e2
  simp only [stepOp] at hs
  split at hs
  · rename_i nl nm hnl hnm
    obtain ⟨kl, hkl⟩ := asI_VR hnl vl
    obtain ⟨km, hkm⟩ := asI_VR hnm vm
    split at hs
    · rename_i hcond
      obtain ⟨c1, c2, c3, c4⟩ := hcond
      simp only [Option.some.injEq, Prod.mk.injEq] at hs
      obtain ⟨rfl, rfl⟩ := hs
      obtain ⟨p, rfl⟩ := Int.eq_ofNat_of_zero_le c1
      obtain ⟨q, rfl⟩ := Int.eq_ofNat_of_zero_le (Int.le_trans c1 c2)
      simp only [Int.toNat_natCast]
      obtain ⟨s1, s2, s3⟩ := storable_cells hst (constD_VR hzd c)
      have hq : q ≤ 140737488355328 := by omega
      have hpq : p ≤ q := by omega
      have w1 : IntKind.i64.wrap (p : Int) = p := by rw [IntKind.wrap_i64]; omega
      have w2 : IntKind.i64.wrap (q : Int) = q := by rw [IntKind.wrap_i64]; omega
      have hrow := rowOk_zeros (c := c) (n := q) hsz hst (constD_VR hzd c)
      obtain ⟨ρ', k1, k2, k3, k4⟩ := new_arr hR { c.w with heap := c.w.heap.push (.cells (Builtin.zeroCells z0.cells q) e) } (m := q) (cap := some q) (xs := List.replicate q z) rfl hsz (by rw [zeroCells_size, s2]) (by simp) (fun k hk => by cases hk; simp) (oneRow_full (m := q) (hrow.toElems fun j u hj => by rw [Nat.zero_add]; simpa using hj) hsz (by rw [zeroCells_size, s2]) (by simp))
        (hrow.toElems fun j u hj => by rw [Nat.zero_add]; simpa using hj)
      refine ⟨.value (.slice (some ⟨c.w.heap.size, 0, none⟩) p q), _, { c.w with heap := c.w.heap.push (.cells (Builtin.zeroCells z0.cells q) e) }, ?_, .inl rfl, ρ', k1, k2, .sl k3 k4 (by simp) hpq (.inl (by simp))⟩
      have t1 : ¬ ((q : Int) < 0) := by omega
      have t2 : ¬ ((i.bytes : Int) * (q : Int) > 281474976710656) := by rw [Int.mul_comm]; omega
      have t3 : ¬ ((p : Int) < 0) := by omega
      have t4 : ¬ ((p : Int) > (q : Int)) := by omega
      by_cases hq0 : q = 0
      · subst hq0
        have hp0 : p = 0 := by omega
        subst hp0
        have hze : (Builtin.zeroCells z0.cells 0) = #[] := by apply Array.eq_empty_of_size_eq_zero; simp [zeroCells_size]
        simp [execOp, ho, hkl, hkm, Instr.makeSlice, run_underlying ht, asInt, asIntOf, typeInfo, hi, IntKind.wrap_i64, sizeOf, newRow, hze]
        rw [show Array.range 0 = #[] from by apply Array.eq_empty_of_size_eq_zero; simp]
        simp
      · have hqs : ¬ (q * i.size = 0) := Nat.mul_ne_zero hq0 (by omega)
        have hzr : (Array.range (q * i.size)).map (z0.cells[· % z0.cells.size]!) = Builtin.zeroCells z0.cells q := by rw [← s2]; rfl
        simp only [execOp, ho, hkl, hkm, Instr.makeSlice, Sem.run_bind, run_underlying ht, Result.andThen_ok, asInt, asIntOf, Sem.run_pure, typeInfo, run_program, hi, w1, w2]
        simp [t1, t2, t3, t4, sizeOf, typeInfo, zeroValue, hi, hz, newRow]
        rw [if_neg hqs, hzr]
    · cases hs
  · cases hs

end
end Go.Dm
