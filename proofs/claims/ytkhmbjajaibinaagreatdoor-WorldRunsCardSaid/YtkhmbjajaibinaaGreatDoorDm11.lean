/-
Part 11 of "Dm": append, copy, clear, make, as operations; slices and structs that are built.
-/
import Derived.Test.YtkhmbjajaibinaaGreatDoorDm10
namespace Go.Dm

section
variable {P : Program} {h h' : Heap} {c : Ctx} {env : Env} {a : Act} {o : Oper} {r : DV}

theorem s_append {t u e : TypeId} {sz bytes : Nat} {z : DV} {s x : Operand} {s' x' : Opd} (ho : o.op = .call { callee := .builtin .append, args := #[s, x], argTypes := #[t, u] }) (ht : P.underlying t = some (.slice e)) (hu : P.underlying u = some (.slice e))
    (he : elemOf' P e = some (sz, bytes, z)) (hs' : opd s = some s') (hx : opd x = some x') (hR : Rel h c) (hE : EnvR c env a) (hs : stepOp h env (.append e sz bytes s' x') = some (r, h')) : Steps1 P h c o a h' r := by
  have vs := opd_VR hs' hE
  have vx := opd_VR hx hE
  obtain ⟨i, z0, hi, e1, e2, hz, hzd, hsz, hst⟩ := elem_facts he
  subst e1; subst e2
  obtain ⟨hz3, hz2, hz4⟩ := storable_cells hst (constD_VR hzd c)
  have hz1 : ∀ j (hj : j < z0.cells.size), (z0.cells[j]).oneCell' = true := fun j hj => (hz4 j (by omega) hj).2
  simp only [stepOp] at hs
  split at hs
  · rename_i ys hys
    obtain ⟨ad, cap, news, q1, q2, q3, q4, q5⟩ := elems_sound hR hys vx
    obtain ⟨v', w', h1, h2⟩ := appendD_sound (P := P) hR hsz q3 (run := fun v => (Builtin.append_ #[t, u] o.type #[v, a.eval x]).run P c.w)
      (fun hy base sLen sCap hle => by
        subst hy
        rw [q1]
        exact append_none ht hu hi hle)
      (fun b co sLen sCap cur ety g1 hroom _ hfit => by
        rw [q1]
        exact append_fits ht hu hi g1 (run_first q3.1 (fun hn => by rw [q4 hn]; rfl) rfl q5) q3.2.1 hroom hfit)
      (fun base sLen sCap olds hfo hg h63 hb => by
        refine ⟨_, Builtin.zeroCells z0.cells (grownCap c.w (sLen + ys.length) sCap e - (sLen + ys.length)), grownCap_ge _ _ _ _, ⟨by rw [zeroCells_size, hz2], oneRow_zeros hz1⟩, ?_⟩
        rw [q1]
        have hf := run_first (P := P) (cap := cap) q3.1 (fun hn => by rw [q4 hn]; rfl) (w := c.w) (w' := c.w.drew) rfl q5
        have := append_grows (P := P) (ty := o.type) ht hu hi hz (w := c.w) hfo hf hg h63 hb
        rw [this]
        congr 3
        apply Array.ext'
        simp)
      vs hs
    exact ⟨.value v', v', w', by rw [exec_builtin ho]; simp [builtin, h1], .inl rfl, h2⟩
  · cases hs

theorem rowOk_zeros {sz n : Nat} {z : DV} {z0 : Value} (hsz : 0 < sz) (hst : storable sz z = true) (hv : VR c z z0) : RowOk c sz (List.replicate n z) (Builtin.zeroCells z0.cells n).toList := by
  obtain ⟨s1, s2, s3⟩ := storable_cells hst hv
  have hpos : 0 < z0.cells.size := by omega
  refine ⟨by simp [zeroCells_size, s2], fun u hu => ?_, fun i d hd => ?_⟩
  · obtain ⟨q, hq⟩ := List.getElem?_of_mem hu
    rw [Array.getElem?_toList] at hq
    have hlt := (Array.getElem?_eq_some_iff.1 hq).1
    rw [zeroCells_size] at hlt
    rw [zeroCells_get hpos hlt] at hq
    cases hq
    exact (s3 _ (by rw [s1, ← s2]; exact Nat.mod_lt _ hpos) (Nat.mod_lt _ hpos)).2
  · rw [List.getElem?_replicate] at hd
    split at hd
    · rename_i hi
      cases hd
      refine ⟨s1, fun j e he => ?_⟩
      obtain ⟨hj, rfl⟩ := List.getElem?_eq_some_iff.1 he
      have hj' := hj
      rw [s1] at hj'
      have hq : i * sz + j < n * z0.cells.size := by rw [s2]; exact mul_lt_of hi hj'
      refine ⟨z0.cells[j]'(by omega), ?_, (s3 j hj (by omega)).1⟩
      rw [Array.getElem?_toList, zeroCells_get hpos hq]
      congr 1
      congr 1
      rw [s2, Nat.mul_comm, Nat.mul_add_mod, Nat.mod_eq_of_lt hj']
    · cases hd

theorem s_appendZ {t u e : TypeId} {k : IntKind} {sz bytes : Nat} {z : DV} {s x : Operand} {s' x' : Opd} (ho : o.op = .call { callee := .builtin .append, args := #[s, x], argTypes := #[t, u] }) (ht : P.underlying t = some (.slice e)) (hu : P.underlying u = some (.int k))
    (he : elemOf' P e = some (sz, bytes, z)) (hs' : opd s = some s') (hx : opd x = some x') (hR : Rel h c) (hE : EnvR c env a) (hs : stepOp h env (.appendZ e sz bytes z s' x') = some (r, h')) : Steps1 P h c o a h' r := by
  have vs := opd_VR hs' hE
  have vx := opd_VR hx hE
  obtain ⟨i, z0, hi, e1, e2, hz, hzd, hsz, hst⟩ := elem_facts he
  subst e1; subst e2
  obtain ⟨hz3, hz2, hz4⟩ := storable_cells hst (constD_VR hzd c)
  have hz1 : ∀ j (hj : j < z0.cells.size), (z0.cells[j]).oneCell' = true := fun j hj => (hz4 j (by omega) hj).2
  simp only [stepOp] at hs
  split at hs
  · rename_i n hn
    obtain ⟨kx, hkx⟩ := asI_VR hn vx
    split at hs
    · rename_i hcond
      obtain ⟨c1, c2⟩ := hcond
      obtain ⟨m, rfl⟩ := Int.eq_ofNat_of_zero_le c1
      simp only [Int.toNat_natCast] at hs
      have hm : m ≤ 140737488355328 := by omega
      have hw : IntKind.i64.wrap (m : Int) = m := by rw [IntKind.wrap_i64]; omega
      have hneg : ¬ ((m : Int) < 0) := by omega
      have hrow := rowOk_zeros (c := c) (n := m) hsz hst (constD_VR hzd c)
      have hlen : (List.replicate m z).length = m := by simp
      obtain ⟨v', w', h1, h2⟩ := appendD_sound (P := P) hR hsz hrow (run := fun v => (Builtin.append_ #[t, u] o.type #[v, a.eval x]).run P c.w)
        (fun hy base sLen sCap hle => by
          have hm0 : m = 0 := by simpa using hy
          subst hm0
          have hb : ¬ ((0 : Int) > 281474976710656) := by omega
          simp only [hkx]
          cases base <;> simp [Builtin.append_, run_underlying ht, run_underlying hu, sizeOf, typeInfo, hi, asInt, asIntOf, hle, storeCells, IntKind.wrap_i64])
        (fun b co sLen sCap cur ety g1 hroom hb hfit => by
          rw [hlen] at hroom hb
          have hb' : ¬ (281474976710656 < (m : Int) * (i.bytes : Int)) := by
            have : m * i.bytes ≤ (sLen + m) * i.bytes := Nat.mul_le_mul_right _ (by omega)
            rw [← Int.natCast_mul]; omega
          have hst2 := run_storeCells (P := P) g1 _ hfit hrow.2.1
          simp only [hkx, hlen]
          by_cases hm0 : m = 0
          · subst hm0
            have : (Builtin.zeroCells z0.cells 0).toList = [] := List.eq_nil_of_length_eq_zero (by simp [zeroCells_size])
            rw [this] at hst2 ⊢
            simp only [Nat.add_zero] at hroom
            simp [Builtin.append_, run_underlying ht, run_underlying hu, sizeOf, typeInfo, hi, asInt, asIntOf, hroom, IntKind.wrap_i64, Addr.add_lit, hst2]
          · have hms : ¬ (m * i.size = 0) := Nat.mul_ne_zero hm0 (by omega)
            simp [Builtin.append_, run_underlying ht, run_underlying hu, sizeOf, typeInfo, zeroValue, hi, hz, asInt, asIntOf, hw, hneg, hb', hroom, hms, Addr.add_lit, hst2])
        (fun base sLen sCap olds hfo hg h63 hb => by
          rw [hlen] at hg h63 hb
          have hb' : ¬ (281474976710656 < (m : Int) * (i.bytes : Int)) := by
            have : m * i.bytes ≤ (sLen + m) * i.bytes := Nat.mul_le_mul_right _ (by omega)
            rw [← Int.natCast_mul]; omega
          have hn' : ¬ (sLen + m ≤ sCap) := by omega
          have h63' : ¬ (9223372036854775807 < ((sLen : Int) + (m : Int))) := by omega
          have h48' : ¬ (281474976710656 < Builtin.nextslicecap (sLen + m) sCap * i.bytes) := by have := growslice_fits hg hb; omega
          have hm0 : m ≠ 0 ∨ m = 0 := by omega
          refine ⟨grownCap c.w (sLen + m) sCap e, Builtin.zeroCells z0.cells (grownCap c.w (sLen + m) sCap e - (sLen + m)), by rw [hlen]; exact grownCap_ge _ _ _ _, ⟨by rw [zeroCells_size, hz2, hlen], oneRow_zeros hz1⟩, ?_⟩
          simp only [hkx, hlen]
          rcases hm0 with hm0 | hm0
          · have hms : ¬ (m * i.size = 0) := Nat.mul_ne_zero hm0 (by omega)
            simp [Builtin.append_, run_underlying ht, run_underlying hu, sizeOf, typeInfo, zeroValue, hi, hz, asInt, asIntOf, hw, hneg, hb', hn', hms, h63', h48', Question.forced, hfo, newRow, grownCap]
            congr 2
            apply Array.ext'
            simp [List.append_assoc]
          · subst hm0
            have hze : (Builtin.zeroCells z0.cells 0) = #[] := by apply Array.eq_empty_of_size_eq_zero; simp [zeroCells_size]
            simp only [Nat.add_zero] at hn' h48' 
            simp [Builtin.append_, run_underlying ht, run_underlying hu, sizeOf, typeInfo, zeroValue, hi, hz, asInt, asIntOf, hn', h48', IntKind.wrap_i64, Question.forced, hfo, newRow, grownCap, hze]
            omega)
        vs hs
      exact ⟨.value v', v', w', by rw [exec_builtin ho]; simp [builtin, h1], .inl rfl, h2⟩
    · cases hs
  · cases hs

end
end Go.Dm
