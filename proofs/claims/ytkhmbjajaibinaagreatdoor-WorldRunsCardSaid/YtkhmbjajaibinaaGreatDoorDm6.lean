/-
Part 6 of "Dm": the last operations that write nothing.
-/
import Derived.Test.YtkhmbjajaibinaaGreatDoorDm5
namespace Go.Dm

section
variable {P : Program} {h h' : Heap} {c : Ctx} {env : Env} {a : Act} {o : Oper} {r : DV}

theorem Rel.arr {h : Heap} {c : Ctx} (hR : Rel h c) {id ety sz : Nat} {xs : List DV} {cap : Option Nat} (hg : h.get id = some (.arr ety sz xs cap)) {b base : Nat} (hρ : c.ρ id = some (b, base)) :
    ∃ cur m, c.w.heap[b]? = some (.cells cur ety (0, 0)) ∧ 0 < sz ∧ cur.size = base + m * sz ∧ xs.length ≤ m ∧ (∀ k, cap = some k → k = m ∧ xs.length = m) ∧ ElemsR c xs sz cur base := by
  obtain ⟨b', base', cur, m, h1, h2, h3, h4, h5, h6, _, h7⟩ := hR.obj id _ hg
  rw [hρ] at h1; cases h1
  exact ⟨cur, m, h2, h3, h4, h5, h6, h7⟩

theorem Rel.oneRow {h : Heap} {c : Ctx} (hR : Rel h c) {id ety sz : Nat} {xs : List DV} {cap : Option Nat} (hg : h.get id = some (.arr ety sz xs cap)) {b base : Nat} (hρ : c.ρ id = some (b, base)) {cur : Array Value} {e : TypeId} {fr : Nat × Nat}
    (hb : c.w.heap[b]? = some (.cells cur e fr)) : OneRow cur := by
  obtain ⟨b', base', cur', m, h1, h2, _, _, _, _, h8, _⟩ := hR.obj id _ hg
  rw [hρ] at h1; cases h1
  rw [hb] at h2; cases h2
  exact h8

theorem shape_of_heap {w : World} {b : Nat} {cur : Array Value} {e : TypeId} {fr : Nat × Nat} (h : w.heap[b]? = some (.cells cur e fr)) : w.shape? b = some (e, cur.size) := by
  simp [World.shape?, h]

/-- A slice into an object: where its capacity ends. -/
theorem sl_room {m off cap sz base n : Nat} (hsz : 0 < sz) (h1 : n = base + m * sz) (h2 : base + off * sz + cap * sz = n) : off + cap = m := by
  have : (off + cap) * sz = m * sz := by rw [Nat.add_mul]; omega
  exact Nat.eq_of_mul_eq_mul_right hsz this

theorem s_sliceSl {t e : TypeId} {x : Operand} {lo hi : Option Operand} {x' : Opd} {lo' hi'' : Option Opd} {i : TypeInfo} (ho : o.op = .slice t x lo hi none) (hu : P.underlying t = some (.slice e)) (hi' : P.info? e = some i) (_hsz : 0 < i.size)
    (hx : opd x = some x') (hlo : optOpd lo = some lo') (hhi : optOpd hi = some hi'')
    (hR : Rel h c) (hE : EnvR c env a) (hs : stepOp h env (.sliceSl i.size x' lo' hi'') = some (r, h')) : Steps0 P h c o a h' r := by
  have vx := opd_VR hx hE
  simp only [stepOp] at hs
  split at hs
  · rename_i hv
    split at hs
    · rename_i n hn
      split at hs
      · rename_i m hm
        simp only [Option.some.injEq, Prod.mk.injEq] at hs
        obtain ⟨rfl, rfl⟩ := hs
        rw [hv] at vx
        obtain ⟨ad, hvx⟩ := vx.nsl_inv
        obtain ⟨b1, b2, b3⟩ := bounds_sound (P := P) hlo hhi hE (cap := 0) true (Nat.le_refl _) (Nat.le_refl _) hn hm c.w
        have e1 : m = 0 := by omega
        have e2 : n = 0 := by omega
        subst e1; subst e2
        exact Steps0.value (.slice ad 0 0) (by simp [execOp, ho, hvx, Instr.sliceAt, Instr.slice, run_underlying hu, b1, sizeOf, typeInfo, hi']) (.nsl ad)
      · cases hs
    · cases hs
  · rename_i l sz xs hv
    split at hs
    · rename_i hcond
      split at hs
      · rename_i n hn
        split at hs
        · rename_i m hm
          simp only [Option.some.injEq, Prod.mk.injEq] at hs
          obtain ⟨rfl, rfl⟩ := hs
          rw [hv] at vx
          have hinv : (xs = [] ∧ ∃ ad cap, a.eval x = .slice ad 0 cap) ∨ (i.size = sz ∧ ∃ (b o : Nat) (cap : Nat) (vals : Nat → Nat → Value), a.eval x = .slice (some ⟨b, o, none⟩) xs.length cap ∧
              xs.length ≤ cap ∧ b < c.w.heap.size ∧ ¬ c.O b ∧ (l = false → ¬ c.X b) ∧ (∀ i (hi : i < xs.length), (ecells sz xs[i]).length = sz) ∧
              (∀ i j, i < xs.length → j < sz → c.w.cell? ⟨b, o + i * sz + j, none⟩ = some (vals i j) ∧ (vals i j).oneCell' = true) ∧
              (∀ i (hi : i < xs.length) j (hj : j < (ecells sz xs[i]).length), VR c.still (ecells sz xs[i])[j] (vals i j))) := by
            rcases vx.isl_inv with h1 | h2
            · exact .inl h1
            · rcases hcond with h3 | h3
              · exact .inr ⟨h3, h2⟩
              · subst h3
                obtain ⟨b, o', cap, vals, hvx, _⟩ := h2
                exact .inl ⟨rfl, _, _, hvx⟩
          rcases hinv with ⟨rfl, ad, cap, hvx⟩ | ⟨rfl, b, o', cap, vals, hvx, hcap, hb, hO, hX, hszs, hc, hvv⟩
          · obtain ⟨b1, b2, b3⟩ := bounds_sound (P := P) hlo hhi hE (cap := cap) true (Nat.zero_le _) (Nat.zero_le _) hn hm c.w
            have hn0 : n = 0 := by
              rcases bound_sound (P := P) hhi hE hn .sliceAcap c.w with ⟨_, e⟩ | ⟨_, _, e, _⟩ <;> simp at e <;> omega
            have hm0 : m = 0 := by omega
            subst hn0; subst hm0
            refine Steps0.value (.slice (if cap = 0 then ad else ad.map (·.add 0)) 0 cap) (by simp [execOp, ho, hvx, Instr.sliceAt, Instr.slice, run_underlying hu, b1, sizeOf, typeInfo, hi']) ?_
            exact .isl0 _ _
          · obtain ⟨b1, b2, b3⟩ := bounds_sound (P := P) hlo hhi hE (cap := cap) true hcap hcap hn hm c.w
            have hnle : n ≤ xs.length := by
              rcases bound_sound (P := P) hhi hE hn .sliceAcap c.w with ⟨_, e⟩ | ⟨_, _, e, _⟩ <;> omega
            refine Steps0.value (.slice (if cap = m then some ⟨b, o', none⟩ else some ⟨b, o' + m * i.size, none⟩) (n - m) (cap - m)) ?_ ?_
            · simp [execOp, ho, hvx, Instr.sliceAt, Instr.slice, run_underlying hu, b1, sizeOf, typeInfo, hi', Addr.add_lit]
            · by_cases hnm : n = m
              · subst hnm
                simp only [Nat.sub_self, List.take_zero]
                exact .isl0 _ _
              · rw [if_neg (by omega)]
                refine .isl (fun k j => vals (m + k) j) (by simp; omega) (by omega) hb hO hX (fun k hk => ?_) (fun k j hk hj => ?_) (fun k hk j hj => ?_)
                · simp only [List.length_take, List.length_drop] at hk
                  simp only [List.getElem_take, List.getElem_drop]
                  exact hszs _ _
                · simp only [List.length_take, List.length_drop] at hk
                  have := hc (m + k) j (by omega) hj
                  rw [Nat.add_mul, ← Nat.add_assoc] at this
                  exact this
                · simp only [List.length_take, List.length_drop] at hk
                  simp only [List.getElem_take, List.getElem_drop] at hj ⊢
                  exact hvv (m + k) (by omega) j hj
        · cases hs
      · cases hs
    · cases hs
  · rename_i id sz off len hv
    split at hs
    · rename_i ety sz' xs cap hg
      split at hs
      · rename_i hcond
        obtain ⟨e1, e2, hle⟩ := hcond
        subst e1; subst e2
        split at hs
        · rename_i n hn
          split at hs
          · rename_i m hm
            simp only [Option.some.injEq, Prod.mk.injEq] at hs
            obtain ⟨rfl, rfl⟩ := hs
            rw [hv] at vx
            obtain ⟨b, base, cap', coff, nn, ety', hvx, hρ, hshape, hmm, hlc, hco⟩ := vx.sl_inv
            obtain ⟨cur, mm, g1, g2, g3, g4, g5, g6⟩ := hR.arr hg hρ
            have hsh := shape_of_heap g1
            rw [hsh] at hshape
            cases hshape
            have hroom := sl_room g2 g3 hmm
            obtain ⟨b1, b2, b3⟩ := bounds_sound (P := P) hlo hhi hE (cap := cap') true hlc (by omega) hn hm c.w
            refine Steps0.value (.slice (if cap' = m then some ⟨b, coff, none⟩ else some ⟨b, coff + m * i.size, none⟩) (n - m) (cap' - m)) ?_ ?_
            · simp [execOp, ho, hvx, Instr.sliceAt, Instr.slice, run_underlying hu, b1, sizeOf, typeInfo, hi', Addr.add_lit]
            · have hmle : m ≤ cap' := by omega
              have harith : base + (off + m) * i.size + (cap' - m) * i.size = cur.size := by
                have e3 : (off + m) * i.size + (cap' - m) * i.size = (off + cap') * i.size := by
                  rw [← Nat.add_mul]; congr 1; omega
                rw [Nat.add_assoc, e3, hroom, g3]
              by_cases hmc : cap' = m
              · rw [if_pos hmc]
                exact .sl hρ hsh harith (by omega) (.inr (by omega))
              · rw [if_neg hmc]
                have hcoff : coff = base + off * i.size := hco.elim (fun e => e) (fun e => by omega)
                exact .sl hρ hsh harith (by omega) (.inl (by rw [hcoff, Nat.add_mul]; omega))
          · cases hs
        · cases hs
      · cases hs
    · cases hs
  · cases hs

/-- A full slice expression: only its bounds are checked. -/
theorem s_slice3 {t e : TypeId} {x lo hi mx : Operand} {x' lo' hi'' mx' : Opd} {i : TypeInfo} (ho : o.op = .slice t x (some lo) (some hi) (some mx)) (hu : P.underlying t = some (.slice e)) (hi' : P.info? e = some i)
    (hx : opd x = some x') (hlo : opd lo = some lo') (hhi : opd hi = some hi'') (hmx : opd mx = some mx') (hE : EnvR c env a) (hs : stepOp h env (.slice3 x' lo' hi'' mx') = some (r, h')) : Steps0 P h c o a h' r := by
  have vx := opd_VR hx hE
  simp only [stepOp] at hs
  split at hs
  · rename_i len hlen
    have hval : ∃ ad cap, a.eval x = .slice ad len cap ∧ len ≤ cap := by
      split at hlen
      · rename_i hv; cases hlen; rw [hv] at vx; obtain ⟨ad, e⟩ := vx.nsl_inv; exact ⟨_, _, e, Nat.le_refl _⟩
      · rename_i hv; cases hlen; rw [hv] at vx
        obtain ⟨b, base, cap', coff, nn, ety', hvx, _, _, _, hlc, _⟩ := vx.sl_inv
        exact ⟨_, _, hvx, hlc⟩
      · rename_i hv; cases hlen; rw [hv] at vx
        rcases vx.isl_inv with ⟨rfl, ad, cap, hvx⟩ | ⟨b, o', cap, vals, hvx, hcap, _⟩
        · exact ⟨_, _, hvx, Nat.zero_le _⟩
        · exact ⟨_, _, hvx, hcap⟩
      · cases hlen
    obtain ⟨ad, cap, hvx, hlc⟩ := hval
    split at hs
    · rename_i m hm
      split at hs
      · rename_i b hb
        split at hs
        · rename_i l hl
          cases hs
          rcases bound_sound (P := P) (oo := some mx) (by simp [optOpd, hmx]) hE hm .slice3Acap c.w with ⟨e0, _⟩ | ⟨y, e0, q1, q2⟩
          · cases e0
          cases e0
          rcases bound_sound (P := P) (oo := some hi) (by simp [optOpd, hhi]) hE hb .slice3B c.w with ⟨e0, _⟩ | ⟨y, e0, q3, q4⟩
          · cases e0
          cases e0
          rcases bound_sound (P := P) (oo := some lo) (by simp [optOpd, hlo]) hE hl .slice3C c.w with ⟨e0, _⟩ | ⟨y, e0, q5, q6⟩
          · cases e0
          cases e0
          exact Steps0.value (.slice (if m = l then ad else ad.map (·.add (l * i.size))) (b - l) (m - l))
            (by simp [execOp, ho, hvx, Instr.sliceAt, Instr.slice, Instr.sliceBounds, run_underlying hu, q2 _ (Nat.le_trans q1 hlc), q4 _ q3, q6 _ q5, sizeOf, typeInfo, hi']) (.unk _)
        · cases hs
      · cases hs
    · cases hs
  · cases hs

theorem exec_builtin {b : Builtin} {args : Array Operand} {ats : Array TypeId} {ρ : Operand → Value} (ho : o.op = .call { callee := .builtin b, args := args, argTypes := ats }) (w : World) :
    (execOp ρ o).run P w = (builtin b ats o.type (args.map fun | .const _ => true | _ => false) (args.map ρ)).run P w := by
  simp only [execOp, ho, Go.resolve, invoke, Sem.run_bind, Sem.run_pure, Result.andThen_ok]
  rfl

def lenKind : TypeDesc → Option Nat
  | .string => some 0
  | .slice _ => some 1
  | .map _ _ => some 2
  | _ => none

theorem s_len {t : TypeId} {x : Operand} {x' : Opd} {k : Nat} {desc : TypeDesc} (ho : o.op = .call { callee := .builtin .len, args := #[x], argTypes := #[t] }) (hu : P.underlying t = some desc) (hk : lenKind desc = some k)
    (hx : opd x = some x') (hR : Rel h c) (hE : EnvR c env a) (hs : stepOp h env (.len k x') = some (r, h')) : Steps0 P h c o a h' r := by
  have vx := opd_VR hx hE
  have key : ∀ n : Nat, (Builtin.len_ #[t] o.type #[a.eval x]).run P c.w = .ok (goInt n) c.w → Steps0 P h c o a h (.int .i64 n) := by
    intro n hrun
    exact Steps0.value (.int .i64 n) (by rw [exec_builtin ho]; simp [builtin, hrun, goInt]) (.int _ _)
  simp only [stepOp] at hs
  split at hs
  · rename_i s hv
    split at hs
    · rename_i hk0
      simp only [Option.some.injEq, Prod.mk.injEq] at hs
      obtain ⟨rfl, rfl⟩ := hs
      rw [hv] at vx
      have hvx := vx.str_inv
      cases desc <;> simp [lenKind, hk0] at hk
      have hsz : (⟨s.toArray⟩ : ByteArray).size = s.length := by simp [ByteArray.size]
      refine key _ ?_
      simp [Builtin.len_, run_underlying hu, hvx, goInt, hsz]
    · cases hs
  · rename_i hv
    split at hs
    · rename_i hk0
      simp only [Option.some.injEq, Prod.mk.injEq] at hs
      obtain ⟨rfl, rfl⟩ := hs
      rw [hv] at vx
      obtain ⟨ad, hvx⟩ := vx.nsl_inv
      cases desc <;> simp [lenKind, hk0] at hk
      refine key 0 ?_
      simp [Builtin.len_, run_underlying hu, hvx, goInt]
    · cases hs
  · rename_i id sz off len hv
    split at hs
    · rename_i hk0
      simp only [Option.some.injEq, Prod.mk.injEq] at hs
      obtain ⟨rfl, rfl⟩ := hs
      rw [hv] at vx
      obtain ⟨b, base, cap', coff, nn, ety', hvx, _⟩ := vx.sl_inv
      cases desc <;> simp [lenKind, hk0] at hk
      refine key _ ?_
      simp [Builtin.len_, run_underlying hu, hvx, goInt]
    · cases hs
  · rename_i l sz xs hv
    split at hs
    · rename_i hk0
      simp only [Option.some.injEq, Prod.mk.injEq] at hs
      obtain ⟨rfl, rfl⟩ := hs
      rw [hv] at vx
      have hvx : ∃ ad cap, a.eval x = .slice ad xs.length cap := by
        rcases vx.isl_inv with ⟨rfl, ad, cap, hvx⟩ | ⟨b, o', cap, vals, hvx, _⟩
        · exact ⟨ad, cap, hvx⟩
        · exact ⟨_, _, hvx⟩
      obtain ⟨ad, cap, hvx⟩ := hvx
      cases desc <;> simp [lenKind, hk0] at hk
      refine key _ ?_
      simp [Builtin.len_, run_underlying hu, hvx, goInt]
    · cases hs
  · rename_i hv
    split at hs
    · rename_i hk0
      simp only [Option.some.injEq, Prod.mk.injEq] at hs
      obtain ⟨rfl, rfl⟩ := hs
      rw [hv] at vx
      have hvx := vx.nmap_inv
      cases desc <;> simp [lenKind, hk0] at hk
      refine key 0 ?_
      simp [Builtin.len_, run_underlying hu, hvx, goInt]
    · cases hs
  · rename_i id hv
    split at hs
    · rename_i es hg
      split at hs
      · rename_i hk0
        simp only [Option.some.injEq, Prod.mk.injEq] at hs
        obtain ⟨rfl, rfl⟩ := hs
        rw [hv] at vx
        obtain ⟨b, hvx, hρ⟩ := vx.map_inv
        obtain ⟨es', hperm, b', entries, clock, h1, h2, h3, h4⟩ := hR.obj id _ hg
        rw [hρ] at h1; cases h1
        cases desc <;> simp [lenKind, hk0] at hk
        refine key _ ?_
        simp [Builtin.len_, run_underlying hu, hvx, goInt, getObj, Sem.run, h2, ← h3, hperm.length_eq]
      · cases hs
    · cases hs
  · cases hs

theorem s_lenArr {t e : TypeId} {n : Nat} {x : Operand} {_x' : Opd} (ho : o.op = .call { callee := .builtin .len, args := #[x], argTypes := #[t] }) (hu : P.underlying t = some (.array n e))
    (_hR : Rel h c) (_hE : EnvR c env a) (hs : stepOp h env (.move (.c (.int .i64 n))) = some (r, h')) : Steps0 P h c o a h' r := by
  simp only [stepOp, Opd.eval, Option.some.injEq, Prod.mk.injEq] at hs
  obtain ⟨rfl, rfl⟩ := hs
  exact Steps0.value (.int .i64 n) (by rw [exec_builtin ho]; simp [builtin, Builtin.len_, run_underlying hu, goInt]) (.int _ _)

theorem s_cap {t e : TypeId} {x : Operand} {x' : Opd} (ho : o.op = .call { callee := .builtin .cap, args := #[x], argTypes := #[t] }) (hu : P.underlying t = some (.slice e))
    (hx : opd x = some x') (hR : Rel h c) (hE : EnvR c env a) (hs : stepOp h env (.cap x') = some (r, h')) : Steps0 P h c o a h' r := by
  have vx := opd_VR hx hE
  simp only [stepOp] at hs
  split at hs
  · rename_i hv
    simp only [Option.some.injEq, Prod.mk.injEq] at hs
    obtain ⟨rfl, rfl⟩ := hs
    rw [hv] at vx
    obtain ⟨ad, hvx⟩ := vx.nsl_inv
    exact Steps0.value (.int .i64 0) (by rw [exec_builtin ho]; simp [builtin, Builtin.cap_, run_underlying hu, hvx, goInt]) (.int _ _)
  · rename_i id sz off len hv
    split at hs
    · rename_i ety sz' xs k hg
      split at hs
      · rename_i hss
        subst hss
        simp only [Option.some.injEq, Prod.mk.injEq] at hs
        obtain ⟨rfl, rfl⟩ := hs
        rw [hv] at vx
        obtain ⟨b, base, cap', coff, nn, ety', hvx, hρ, hshape, hmm, hlc, hco⟩ := vx.sl_inv
        obtain ⟨cur, mm, g1, g2, g3, g4, g5, g6⟩ := hR.arr hg hρ
        rw [shape_of_heap g1] at hshape
        cases hshape
        have hroom := sl_room g2 g3 hmm
        have hk := (g5 k rfl).1
        have e1 : ((k - off : Nat) : Int) = ((cap' : Nat) : Int) := by omega
        rw [e1]
        exact Steps0.value (.int .i64 cap') (by rw [exec_builtin ho]; simp [builtin, Builtin.cap_, run_underlying hu, hvx, goInt]) (.int _ _)
      · cases hs
    · rename_i ety sz' xs hg
      split at hs
      · rename_i hss
        subst hss
        simp only [Option.some.injEq, Prod.mk.injEq] at hs
        obtain ⟨rfl, rfl⟩ := hs
        rw [hv] at vx
        obtain ⟨b, base, cap', coff, nn, ety', hvx, hρ, hshape, hmm, hlc, hco⟩ := vx.sl_inv
        obtain ⟨cur, mm, g1, g2, g3, g4, g5, g6⟩ := hR.arr hg hρ
        rw [shape_of_heap g1] at hshape
        cases hshape
        have hroom := sl_room g2 g3 hmm
        exact Steps0.value (.int .i64 cap') (by rw [exec_builtin ho]; simp [builtin, Builtin.cap_, run_underlying hu, hvx, goInt]) (.atl (by omega))
      · cases hs
    · cases hs
  · cases hs

theorem s_minmax {mx : Bool} {x y : Operand} {x' y' : Opd} {ats : Array TypeId} (ho : o.op = .call { callee := .builtin (if mx then .max else .min), args := #[x, y], argTypes := ats })
    (hx : opd x = some x') (hy : opd y = some y') (_hR : Rel h c) (hE : EnvR c env a) (hs : stepOp h env (.minmax mx x' y') = some (r, h')) : Steps0 P h c o a h' r := by
  have vx := opd_VR hx hE
  have vy := opd_VR hy hE
  simp only [stepOp] at hs
  split at hs
  · rename_i k m k' n hm hn
    rw [hm] at vx; rw [hn] at vy
    simp only [Option.some.injEq, Prod.mk.injEq] at hs
    obtain ⟨rfl, rfl⟩ := hs
    have hvx := vx.int_inv
    have hvy := vy.int_inv
    cases mx
    · exact Steps0.value (.int k (if n < m then n else m)) (by rw [exec_builtin ho]; simp [builtin, Builtin.min_, Builtin.min2, hvx, hvy]) (.int _ _)
    · exact Steps0.value (.int k (if m < n then n else m)) (by rw [exec_builtin ho]; simp [builtin, Builtin.max_, Builtin.max2, hvx, hvy]) (.int _ _)
  · cases hs

theorem opds_VR {xs : List Operand} {xs' : List Opd} (hx : xs.mapM opd = some xs') (hE : EnvR c env a) : VRs c (xs'.map (Opd.eval env)) (xs.map a.eval) := by
  have hl := mapM_length _ _ _ hx
  refine ⟨by simp [hl], fun i h1 h2 => ?_⟩
  simp only [List.length_map] at h1 h2
  simp only [List.getElem_map]
  exact opd_VR (mapM_get _ _ _ hx i h2 h1) hE

theorem s_makeFunc {f : FuncId} {first cap : Array Operand} {cap' : List Opd} (ho : o.op = .makeFunc (.func f) first cap) (hf : first.isEmpty = true) (hc : cap.toList.mapM opd = some cap')
    (_hR : Rel h c) (hE : EnvR c env a) (hs : stepOp h env (.makeFunc f cap') = some (r, h')) : Steps0 P h c o a h' r := by
  have hv := opds_VR hc hE
  simp only [stepOp, Option.some.injEq, Prod.mk.injEq] at hs
  obtain ⟨rfl, rfl⟩ := hs
  refine Steps0.value (.func (.func f) #[] (cap.toList.map a.eval).toArray) ?_ (.func hv.1 hv.2)
  have : first = #[] := by simpa using hf
  subst this
  have e : cap.map a.eval = (cap.toList.map a.eval).toArray := by apply Array.ext'; simp
  simp [execOp, ho, Instr.makeFunc, e]

theorem s_extract {x : Operand} {x' : Opd} {i : Nat} (ho : o.op = .extract x i) (hx : opd x = some x') (_hR : Rel h c) (hE : EnvR c env a) (hs : stepOp h env (.extract x' i) = some (r, h')) : Steps0 P h c o a h' r := by
  have vx := opd_VR hx hE
  simp only [stepOp] at hs
  split at hs
  · rename_i vs hv
    split at hs
    · rename_i v hvi
      simp only [Option.some.injEq, Prod.mk.injEq] at hs
      obtain ⟨rfl, rfl⟩ := hs
      rw [hv] at vx
      obtain ⟨us, hvx, hl, hu⟩ := vx.tup_inv
      obtain ⟨hlt, he⟩ := List.getElem?_eq_some_iff.1 hvi
      have hlt' : i < us.length := by omega
      refine Steps0.value us[i] (by simp [execOp, ho, hvx, Instr.extract, hlt']) ?_
      rw [← he]; exact hu i hlt hlt'
    · cases hs
  · cases hs

theorem s_makeIface {t : TypeId} {x : Operand} {x' : Opd} {desc : TypeDesc} (ho : o.op = .makeInterface t x) (hu : P.underlying t = some desc) (hni : ∀ ms, desc ≠ .interface ms) (hx : opd x = some x') (_hR : Rel h c) (hE : EnvR c env a)
    (hs : stepOp h env (.makeIface t x') = some (r, h')) : Steps0 P h c o a h' r := by
  have vx := opd_VR hx hE
  simp only [stepOp, Option.some.injEq, Prod.mk.injEq] at hs
  obtain ⟨rfl, rfl⟩ := hs
  refine Steps0.value (.iface t (a.eval x)) ?_ (.iface vx)
  simp only [execOp, ho, Instr.makeInterface, Sem.run_bind, run_underlying hu, Result.andThen_ok]
  cases desc <;> first | rfl | exact absurd rfl (hni _)

end
end Go.Dm
