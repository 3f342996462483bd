/-
Part 9 of "Dm": append, copy, make, slices and structs that are built.
-/
import Derived.Test.YtkhmbjajaibinaaGreatDoorDm8
namespace Go.Dm

section
variable {P : Program} {h h' : Heap} {c : Ctx} {env : Env} {a : Act} {o : Oper} {r : DV}

/-- Elements over a list of cells. -/
def RowOk (c : Ctx) (sz : Nat) (ys : List DV) (vs : List Value) : Prop :=
  vs.length = ys.length * sz ∧ (∀ u ∈ vs, u.oneCell' = true) ∧
  ∀ (i : Nat) (d : DV), ys[i]? = some d → (ecells sz d).length = sz ∧ ∀ (j : Nat) (e : DV), (ecells sz d)[j]? = some e → ∃ u, vs[i * sz + j]? = some u ∧ VR c e u

theorem rowOk_nil {sz : Nat} : RowOk c sz [] [] := ⟨by simp, by simp, by simp⟩

theorem RowOk.append {sz : Nat} {ys zs : List DV} {vs us : List Value} (h1 : RowOk c sz ys vs) (h2 : RowOk c sz zs us) : RowOk c sz (ys ++ zs) (vs ++ us) := by
  refine ⟨by rw [List.length_append, List.length_append, Nat.add_mul, h1.1, h2.1], fun u hu => (List.mem_append.1 hu).elim (h1.2.1 u) (h2.2.1 u), fun i d hd => ?_⟩
  rw [List.getElem?_append] at hd
  split at hd
  · rename_i hi
    obtain ⟨a1, a2⟩ := h1.2.2 i d hd
    refine ⟨a1, fun j e he => ?_⟩
    obtain ⟨u, b1, b2⟩ := a2 j e he
    exact ⟨u, by rw [List.getElem?_append_left (List.getElem?_eq_some_iff.1 b1).1]; exact b1, b2⟩
  · rename_i hi
    obtain ⟨a1, a2⟩ := h2.2.2 _ d hd
    refine ⟨a1, fun j e he => ?_⟩
    obtain ⟨u, b1, b2⟩ := a2 j e he
    refine ⟨u, ?_, b2⟩
    have hmul : (i - ys.length) * sz + ys.length * sz = i * sz := by rw [← Nat.add_mul]; congr 1; omega
    rw [List.getElem?_append_right (by rw [h1.1]; omega), h1.1]
    rw [← b1]; congr 1; omega

theorem RowOk.mono {c' : Ctx} {sz : Nat} {ys : List DV} {vs : List Value} (h1 : RowOk c sz ys vs) (hle : CtxLe c c') : RowOk c' sz ys vs :=
  ⟨h1.1, h1.2.1, fun i d hd => ⟨(h1.2.2 i d hd).1, fun j e he => let ⟨u, b1, b2⟩ := (h1.2.2 i d hd).2 j e he; ⟨u, b1, b2.mono hle⟩⟩⟩

theorem RowOk.toElems {sz : Nat} {ys : List DV} {vs : List Value} (h1 : RowOk c sz ys vs) {cur : Array Value} {base : Nat} (hc : ∀ (j : Nat) (u : Value), vs[j]? = some u → cur[base + j]? = some u) : ElemsR c ys sz cur base := by
  rw [elemsR_iff]
  intro i d hd
  obtain ⟨a1, a2⟩ := h1.2.2 i d hd
  refine ⟨a1, fun j e he => ?_⟩
  obtain ⟨u, b1, b2⟩ := a2 j e he
  exact ⟨u, by rw [Nat.add_assoc]; exact hc _ _ b1, h1.2.1 u (List.mem_of_getElem? b1), b2⟩

theorem rowOk_of_elems {xs : List DV} {sz base m : Nat} {cur : Array Value} (hE : ElemsR c xs sz cur base) (hsize : cur.size = base + m * sz) (off len : Nat) (hle : off + len ≤ xs.length) (hm : xs.length ≤ m) :
    RowOk c sz ((xs.drop off).take len) ((cur.toList.drop (base + off * sz)).take (len * sz)) := by
  have hb : base + off * sz + len * sz ≤ cur.size := by
    have : (off + len) * sz ≤ m * sz := Nat.mul_le_mul_right _ (by omega)
    rw [Nat.add_mul] at this; omega
  have hE' := elemsR_iff.1 hE
  have hget : ∀ q u, ((cur.toList.drop (base + off * sz)).take (len * sz))[q]? = some u ↔ q < len * sz ∧ cur[base + off * sz + q]? = some u := by
    intro q u
    rw [List.getElem?_take]
    split
    · rename_i hq; rw [List.getElem?_drop, Array.getElem?_toList]; exact ⟨fun h => ⟨hq, h⟩, fun h => h.2⟩
    · rename_i hq; exact ⟨(fun h => by cases h), (fun h => absurd h.1 hq)⟩
  refine ⟨by rw [List.length_take, List.length_take, List.length_drop, List.length_drop, Array.length_toList, Nat.min_eq_left (by omega), Nat.min_eq_left (by omega)], fun u hu => ?_, fun i d hd => ?_⟩
  · obtain ⟨q, hq⟩ := List.getElem?_of_mem hu
    obtain ⟨hq1, hq2⟩ := (hget q u).1 hq
    have hsz : 0 < sz := by
      rcases Nat.eq_zero_or_pos sz with e | e
      · subst e; simp at hq1
      · exact e
    have hi : q / sz < len := Nat.div_lt_of_lt_mul (by rw [Nat.mul_comm]; exact hq1)
    obtain ⟨w1, w2⟩ := hE' (off + q / sz) xs[off + q / sz] (List.getElem?_eq_getElem (by omega))
    have hlt : q % sz < (ecells sz xs[off + q / sz]).length := by rw [w1]; exact Nat.mod_lt _ hsz
    obtain ⟨v, b1, b2, _⟩ := w2 (q % sz) _ (List.getElem?_eq_getElem hlt)
    have hpos : base + (off + q / sz) * sz + q % sz = base + off * sz + q := by
      rw [Nat.add_mul]
      have := Nat.div_add_mod q sz
      rw [Nat.mul_comm] at this
      omega
    rw [hpos, hq2] at b1
    cases b1
    exact b2
  · rw [List.getElem?_take] at hd
    split at hd
    · rename_i hi
      rw [List.getElem?_drop] at hd
      obtain ⟨w1, w2⟩ := hE' (off + i) d hd
      refine ⟨w1, fun j e he => ?_⟩
      obtain ⟨v, b1, b2, b3⟩ := w2 j e he
      have hj := (List.getElem?_eq_some_iff.1 he).1
      rw [w1] at hj
      refine ⟨v, (hget _ _).2 ⟨mul_lt_of hi hj, ?_⟩, b3⟩
      rw [← b1]; congr 1; rw [Nat.add_mul]; omega
    · cases hd

/-- What a slice shows, in memory. -/
theorem elems_sound (hR : Rel h c) {sz : Nat} {d : DV} {v : Value} {ys : List DV} (he : elems h sz d = some ys) (hv : VR c d v) :
    ∃ ad cap news, v = .slice ad ys.length cap ∧ ys.length ≤ cap ∧ RowOk c sz ys news ∧ (ad = none → ys = []) ∧ ∀ adr, ad = some adr → ∀ (j : Nat) (u : Value), news[j]? = some u → c.w.cell? (adr.add j) = some u := by
  cases d <;> simp only [elems] at he <;> try (cases he; done)
  case nsl =>
    cases he
    obtain ⟨ad, e⟩ := hv.nsl_inv
    exact ⟨ad, 0, [], e, by simp, rowOk_nil, fun _ => rfl, fun _ _ j u hj => by simp at hj⟩
  case sl id sz' off len =>
    split at he
    · rename_i ety sz'' xs cap hg
      split at he
      · rename_i hcond
        obtain ⟨e1, e2, hle⟩ := hcond
        subst e1; subst e2
        cases he
        obtain ⟨b, base, cap', coff, nn, ety', hvx, hρ, hshape, hmm, hlc, hco⟩ := hv.sl_inv
        obtain ⟨cur, mm, g1, g2, g3, g4, g5, g6⟩ := hR.arr hg hρ
        have hlen : ((xs.drop off).take len).length = len := by simp; omega
        refine ⟨some ⟨b, coff, none⟩, cap', _, by rw [hlen]; exact hvx, by rw [hlen]; exact hlc, rowOk_of_elems g6 g3 off len hle g4, (fun h => by cases h), fun adr hadr j u hj => ?_⟩
        cases hadr
        rw [List.getElem?_take] at hj
        split at hj
        · rename_i hjl
          rw [List.getElem?_drop, Array.getElem?_toList] at hj
          have hl0 : 0 < len := by
            rcases Nat.eq_zero_or_pos len with e | e
            · subst e; simp at hjl
            · exact e
          have hcoff : coff = base + off * sz := hco.elim (fun e => e) (fun e => by omega)
          rw [Addr.add_lit, cell_of_heap g1, hcoff]
          exact hj
        · cases hj
      · cases he
    · cases he
  case isl lent sz' xs =>
    split at he
    · rename_i hsz
      cases he
      by_cases hnil : ys = []
      · subst hnil
        have : ∃ ad cap, v = .slice ad 0 cap := by
          rcases hv.isl_inv with ⟨_, ad, cap, hvx⟩ | ⟨b, o', cap, vals, hvx, _⟩
          · exact ⟨_, _, hvx⟩
          · exact ⟨_, _, hvx⟩
        obtain ⟨ad, cap, hvx⟩ := this
        exact ⟨ad, cap, [], hvx, by simp, rowOk_nil, fun _ => rfl, fun _ _ j u hj => by simp at hj⟩
      have hsz := hsz.resolve_right hnil
      subst hsz
      rcases hv.isl_inv with ⟨rfl, ad, cap, hvx⟩ | ⟨b, o', cap, vals, hvx, hcap, hb, hO, hX, hszs, hc, hvv⟩
      · exact ⟨ad, cap, [], hvx, by simp, rowOk_nil, fun _ => rfl, fun _ _ j u hj => by simp at hj⟩
      · refine ⟨some ⟨b, o', none⟩, cap, (List.range (ys.length * sz)).map fun q => vals (q / sz) (q % sz), hvx, hcap, ⟨by simp, fun u hu => ?_, fun i d hd => ?_⟩, (fun h => by cases h), fun adr hadr j u hj => ?_⟩
        · simp only [List.mem_map, List.mem_range] at hu
          obtain ⟨q, hq, rfl⟩ := hu
          have hs : 0 < sz := Nat.pos_of_ne_zero (fun e => by subst e; simp at hq)
          exact (hc (q / sz) (q % sz) (Nat.div_lt_of_lt_mul (by rw [Nat.mul_comm]; exact hq)) (Nat.mod_lt _ hs)).2
        · obtain ⟨hi, hdd⟩ := List.getElem?_eq_some_iff.1 hd
          subst hdd
          refine ⟨hszs i hi, fun j e he => ?_⟩
          obtain ⟨hj, hee⟩ := List.getElem?_eq_some_iff.1 he
          subst hee
          have hj' := hj
          rw [hszs i hi] at hj'
          refine ⟨vals i j, ?_, (hvv i hi j hj).of_still⟩
          rw [List.getElem?_map, List.getElem?_range (mul_lt_of hi hj')]
          simp only [Option.map_some]
          congr 2
          · rw [Nat.mul_comm, Nat.mul_add_div (by omega), Nat.div_eq_of_lt hj', Nat.add_zero]
          · rw [Nat.mul_comm, Nat.mul_add_mod, Nat.mod_eq_of_lt hj']
        · cases hadr
          rw [List.getElem?_map] at hj
          simp only [Option.map_eq_some_iff] at hj
          obtain ⟨q, hq, rfl⟩ := hj
          obtain ⟨hq1, hq2⟩ := List.getElem?_eq_some_iff.1 hq
          simp only [List.length_range] at hq1
          simp only [List.getElem_range] at hq2
          subst hq2
          have hs : 0 < sz := Nat.pos_of_ne_zero (fun e => by subst e; simp at hq1)
          have := (hc (j / sz) (j % sz) (Nat.div_lt_of_lt_mul (by rw [Nat.mul_comm]; exact hq1)) (Nat.mod_lt _ hs)).1
          rw [Addr.add_lit, ← this]
          congr 2
          have := Nat.div_add_mod j sz
          rw [Nat.mul_comm] at this
          omega
    · cases he

theorem run_first {sz n cap : Nat} {ad : Option Addr} {news : List Value} (hl : news.length = n * sz) (hn : ad = none → n = 0) {w w' : World} (hw : w'.heap = w.heap)
    (hc : ∀ adr, ad = some adr → ∀ (j : Nat) (u : Value), news[j]? = some u → w.cell? (adr.add j) = some u) : (Builtin.firstCells sz n (.slice ad n cap)).run P w' = .ok news.toArray w' := by
  cases ad with
  | none =>
    have := hn rfl
    subst this
    have : news = [] := List.eq_nil_of_length_eq_zero (by simpa using hl)
    subst this
    rfl
  | some adr =>
    exact run_firstCells_some w' sz n adr n cap news hl (fun j v hj => by
      have := hc adr rfl j v hj
      simpa [World.cell?, hw] using this)

/-- append where it fits. -/
theorem append_fits {t u ty e e' : TypeId} {i : TypeInfo} (ht : P.underlying t = some (.slice e)) (hu : P.underlying u = some (.slice e')) (hi : P.info? e = some i) {w : World} {b co sLen sCap n cap : Nat} {ad : Option Addr} {cur : Array Value} {ety : TypeId} {news : List Value}
    (g1 : w.heap[b]? = some (.cells cur ety (0, 0))) (hf : (Builtin.firstCells i.size n (.slice ad n cap)).run P w = .ok news.toArray w) (h1 : ∀ x ∈ news, x.oneCell' = true) (hroom : sLen + n ≤ sCap) (hfit : co + sLen * i.size + news.length ≤ cur.size) :
    (Builtin.append_ #[t, u] ty #[.slice (some ⟨b, co, none⟩) sLen sCap, .slice ad n cap]).run P w = .ok (.slice (some ⟨b, co, none⟩) (sLen + n) sCap) (w.setRow b (spl cur (co + sLen * i.size) news)) := by
  have hst := run_storeCells (P := P) g1 news hfit h1
  simp [Builtin.append_, run_underlying ht, run_underlying hu, sizeOf, typeInfo, hi, Builtin.lenOf, hroom, hf, Addr.add_lit, hst]

/-- append of nothing. -/
theorem append_none {t u ty e e' : TypeId} {i : TypeInfo} (ht : P.underlying t = some (.slice e)) (hu : P.underlying u = some (.slice e')) (hi : P.info? e = some i) {w : World} {base ad : Option Addr} {sLen sCap cap : Nat} (hroom : sLen ≤ sCap) :
    (Builtin.append_ #[t, u] ty #[.slice base sLen sCap, .slice ad 0 cap]).run P w = .ok (.slice base sLen sCap) w := by
  have hf : (Builtin.firstCells i.size 0 (.slice ad 0 cap)).run P w = .ok #[] w := by
    cases ad with
    | none => rfl
    | some adr => simpa using run_firstCells_some (P := P) w i.size 0 adr 0 cap [] (by simp) (by simp)
  cases base <;> simp [Builtin.append_, run_underlying ht, run_underlying hu, sizeOf, typeInfo, hi, Builtin.lenOf, hroom, hf, storeCells]

/-- append where a new row is made. -/
theorem append_grows {t u ty e e' : TypeId} {i : TypeInfo} {z : Value} (ht : P.underlying t = some (.slice e)) (hu : P.underlying u = some (.slice e')) (hi : P.info? e = some i) (hz : i.zero = some z) {w : World} {base ad : Option Addr} {sLen sCap n cap : Nat} {olds news : List Value}
    (hfo : (Builtin.firstCells i.size sLen (.slice base sLen sCap)).run P w.drew = .ok olds.toArray w.drew) (hf : (Builtin.firstCells i.size n (.slice ad n cap)).run P w.drew = .ok news.toArray w.drew)
    (hg : sCap < sLen + n) (h63 : sLen + n ≤ 9223372036854775807) (hfit : (sLen + n) * i.bytes ≤ 140737488355328) :
    (Builtin.append_ #[t, u] ty #[.slice base sLen sCap, .slice ad n cap]).run P w =
      .ok (.slice (some ⟨w.heap.size, 0, none⟩) (sLen + n) (grownCap w (sLen + n) sCap e)) (w.drew.alloc (.cells (olds.toArray ++ news.toArray ++ Builtin.zeroCells z.cells (grownCap w (sLen + n) sCap e - (sLen + n))) e)) := by
  have hn : ¬ (sLen + n ≤ sCap) := by omega
  have h63' : ¬ (9223372036854775807 < ((sLen : Int) + (n : Int))) := by omega
  have h48' : ¬ (281474976710656 < Builtin.nextslicecap (sLen + n) sCap * i.bytes) := by have := growslice_fits hg hfit; omega
  simp [Builtin.append_, run_underlying ht, run_underlying hu, sizeOf, typeInfo, zeroValue, hi, hz, Builtin.lenOf, hn, h63', h48', Question.forced, hf, hfo, newRow, grownCap]
  congr 2
  apply Array.ext'
  simp [List.append_assoc]

theorem zeroCells_size {z : Array Value} {n : Nat} : (Builtin.zeroCells z n).size = n * z.size := by simp [Builtin.zeroCells]

theorem zeroCells_get {z : Array Value} {n q : Nat} (hz : 0 < z.size) (hq : q < n * z.size) : (Builtin.zeroCells z n)[q]? = some (z[q % z.size]'(Nat.mod_lt _ hz)) := by
  simp only [Builtin.zeroCells]
  rw [Array.getElem?_map, Array.getElem?_range]
  simp only [hq, if_true, Option.map_some]
  congr 1
  exact getElem!_pos z _ (Nat.mod_lt _ hz)

theorem oneRow_zeros {z : Array Value} {n : Nat} (hz : ∀ j (hj : j < z.size), (z[j]).oneCell' = true) : OneRow (Builtin.zeroCells z n) := by
  intro q v hq
  have hlt := (Array.getElem?_eq_some_iff.1 hq).1
  rw [zeroCells_size] at hlt
  have hpos : 0 < z.size := Nat.pos_of_ne_zero fun e => by rw [e] at hlt; omega
  rw [zeroCells_get hpos hlt] at hq
  cases hq
  exact hz _ _

/-- The state behind an append that makes a row. -/
theorem post_grown (hR : Rel h c) {ety sz need ncap : Nat} {ys : List DV} {vs : List Value} {zs : Array Value} {w' : World} (hw : w'.heap = c.w.heap.push (.cells (vs.toArray ++ zs) ety (0, 0))) (hsz : 0 < sz) (hrow : RowOk c sz ys vs) (hneed : ys.length = need) (hcap : need ≤ ncap) (hzs : zs.size = (ncap - need) * sz) (hz1 : OneRow zs) (hq : w'.os = c.w.os ∧ w'.output = c.w.output := by exact ⟨rfl, rfl⟩) :
    Post h c (h.push (.arr ety sz ys none)) w' (.sl h.n sz 0 need) (.slice (some ⟨c.w.heap.size, 0, none⟩) need ncap) := by
  have hsize : (vs.toArray ++ zs).size = ncap * sz := by
    simp only [Array.size_append, List.size_toArray, hrow.1, hneed, hzs, ← Nat.add_mul]
    congr 1; omega
  obtain ⟨ρ', k1, k2, k3, k4⟩ := new_arr hR w' (m := ncap) (cap := none) (xs := ys) hw hsz hsize (by omega) (fun k hk => by cases hk) (fun q v hv => by
    rw [Array.getElem?_append] at hv
    split at hv
    · exact hrow.2.1 v (List.mem_of_getElem? (by simpa using hv))
    · exact hz1 _ v hv) (hrow.toElems fun j u hj => by
    rw [Nat.zero_add, Array.getElem?_append_left (by have := (List.getElem?_eq_some_iff.1 hj).1; simpa using this)]
    simpa using hj) hq
  exact ⟨ρ', k1, k2, .sl k3 k4 (by simp) hcap (.inl (by simp))⟩

end
end Go.Dm
