/-
Part 15 of "Dm": every operation that is no call does what the machine says.
-/
import Derived.Test.YtkhmbjajaibinaaGreatDoorDm14
namespace Go.Dm

/-- Does an operation make or turn memory? -/
def touches : DOp → Bool
  | .alloc .. | .box .. | .buildSlice .. | .store .. | .append .. | .appendZ .. | .copy .. | .clear .. | .makeSlice .. | .makeMap | .mapUpdate .. | .delete .. | .call .. => true
  | _ => false

/-- What a step is, by what it does to memory. -/
def StepsT (P : Program) (h : Heap) (c : Ctx) (o : Oper) (a : Act) (h' : Heap) (r : DV) (d : DOp) : Prop :=
  match touches d with
  | true => Steps1 P h c o a h' r
  | false => Steps0 P h c o a h' r

section
variable {P : Program} {h h' : Heap} {c : Ctx} {env : Env} {a : Act} {o : Oper} {r : DV}

theorem stepT {d : DOp} (hc : compOp P o = some d) (hnc : ∀ f as, d ≠ .call f as) (hR : Rel h c) (hE : EnvR c env a) (hs : stepOp h env d = some (r, h')) : StepsT P h c o a h' r d := by
  unfold compOp at hc
  split at hc
  · rename_i x ho
    simp only [Option.map_eq_some_iff] at hc
    obtain ⟨x', hx, rfl⟩ := hc
    exact s_move (.inl ho) hx hR hE hs
  · rename_i x ho
    simp only [Option.map_eq_some_iff] at hc
    obtain ⟨x', hx, rfl⟩ := hc
    exact s_move (.inr ho) hx hR hE hs
  · rename_i x y z ho
    split at hc
    · rename_i x' y' z' hx hy hz; cases hc; exact s_pick ho hx hy hz hR hE hs
    · cases hc
  · rename_i e ho
    split at hc
    · rename_i sz b z he; cases hc; exact s_alloc ho he hR hE hs
    · cases hc
  · rename_i e x ho
    split at hc
    · rename_i sz b z x' he hx; cases hc; exact s_box ho he hx hR hE hs
    · cases hc
  · rename_i t parts ho
    split at hc
    · rename_i fs sz b z ht he
      split at hc
      · rename_i ps hp
        split at hc
        · rename_i hall; cases hc; exact s_buildStruct ho ht he hp hall hR hE hs
        · cases hc
      · cases hc
    · rename_i n e sz b z ht he
      split at hc
      · rename_i esz eb ez hee
        split at hc
        · rename_i ps hp; cases hc; exact s_buildArray ho ht he hee hp hR hE hs
        · cases hc
      · cases hc
    · cases hc
  · rename_i t len parts ho
    split at hc
    · rename_i e ht
      split at hc
      · rename_i sz b z he
        split at hc
        · rename_i ps hp
          split at hc
          · rename_i hsm; cases hc; exact s_buildSlice ho ht he hp hsm hR hE hs
          · cases hc
        · cases hc
      · cases hc
    · cases hc
  · rename_i t x ho
    split at hc
    · rename_i n x' hn hx; cases hc; exact s_load ho hn hx hR hE hs
    · cases hc
  · rename_i t x y ho
    split at hc
    · rename_i i x' y' hi hx hy
      split at hc
      · cases hc; exact s_store ho hi hx hy hR hE hs
      · cases hc
    · cases hc
  · rename_i x ho
    simp only [Option.map_eq_some_iff] at hc
    obtain ⟨x', hx, rfl⟩ := hc
    exact s_nilCheck ho hx hR hE hs
  · rename_i op t x y u ho
    split at hc
    · rename_i x' y' hx hy
      split at hc
      · cases hc; exact s_arith ho hx hy hR hE hs
      · cases hc; exact s_arith ho hx hy hR hE hs
      · rename_i hu
        split at hc
        · cases hc; exact s_eqb (neq := false) (by simpa using ho) hu hx hy hR hE hs
        · cases hc; exact s_eqb (neq := true) (by simpa using ho) hu hx hy hR hE hs
        · cases hc
      · rename_i fs hu
        split at hc
        · rename_i ks hk; cases hc; exact s_eqa (neq := false) (by simpa using ho) (by simp [isAggTy, hu]) hk hx hy hR hE hs
        · rename_i ks hk; cases hc; exact s_eqa (neq := true) (by simpa using ho) (by simp [isAggTy, hu]) hk hx hy hR hE hs
        · cases hc
      · rename_i n e hu
        split at hc
        · rename_i ks hk; cases hc; exact s_eqa (neq := false) (by simpa using ho) (by simp [isAggTy, hu]) hk hx hy hR hE hs
        · rename_i ks hk; cases hc; exact s_eqa (neq := true) (by simpa using ho) (by simp [isAggTy, hu]) hk hx hy hR hE hs
        · cases hc
      · rename_i desc _ _ _ _ _ hu
        split at hc
        · rename_i k hk
          split at hc
          · rename_i hcc
            split at hc
            · cases hc; exact s_eqn (neq := false) (by simpa using ho) hu hk hcc hx hy hR hE hs
            · cases hc; exact s_eqn (neq := true) (by simpa using ho) hu hk hcc hx hy hR hE hs
            · cases hc
          · cases hc
        · cases hc
      · cases hc
    · cases hc
  · rename_i op t x ho
    simp only [Option.map_eq_some_iff] at hc
    obtain ⟨x', hx, rfl⟩ := hc
    exact s_un ho hx hR hE hs
  · rename_i src dst x ho
    split at hc
    · rename_i k0 k x' h1 h2 hx; cases hc; exact s_conv ho h1 h2 hx hR hE hs
    · rename_i x' h1 h2 hx; cases hc; exact s_asStr ho h1 h2 hx hR hE hs
    · cases hc; exact (fail_never hs).elim
  · rename_i f first cap ho
    split at hc
    · rename_i hf
      split at hc
      · rename_i c' hcap; cases hc; exact s_makeFunc ho hf hcap hR hE hs
      · cases hc
    · cases hc
  · rename_i s x f ho
    split at hc
    · rename_i fs x' hu hx
      split at hc
      · rename_i fl hf
        split at hc
        · rename_i i hi
          split at hc
          · rename_i hsz; cases hc; exact s_fieldAddr ho hu hf hi hsz hx hR hE hs
          · cases hc
        · cases hc
      · cases hc
    · cases hc
  · rename_i s x f ho
    split at hc
    · rename_i fs x' hu hx
      split at hc
      · rename_i fl hf
        split at hc
        · rename_i n hn; cases hc; exact s_field ho hu hf hn hx hR hE hs
        · cases hc
      · cases hc
    · cases hc
  · rename_i t x i ho
    split at hc
    · rename_i e x' i' hu hx hi
      split at hc
      · rename_i fi hfi
        split at hc
        · rename_i hsz; cases hc; exact s_indexAddr ho hu hfi hsz hx hi hR hE hs
        · cases hc
      · cases hc
    · rename_i len e x' i' hu hx hi
      split at hc
      · rename_i fi hfi
        split at hc
        · rename_i hsz; cases hc; exact s_indexArr ho hu hfi hx hi hR hE hs
        · cases hc
      · cases hc
    · cases hc
  · rename_i t x i ho
    split at hc
    · rename_i len e x' i' hu hx hi
      split at hc
      · rename_i fi n hfi hn; cases hc; exact s_index ho hu hfi hn hx hi hR hE hs
      · cases hc
    · rename_i x' i' hu hx hi; cases hc; exact s_indexStr ho hu hx hi hR hE hs
    · cases hc
  · rename_i t x lo hi ho
    split at hc
    · rename_i x' lo' hi' hu hx hlo hhi; cases hc; exact s_sliceStr ho hu hx hlo hhi hR hE hs
    · rename_i e x' lo' hi' hu hx hlo hhi
      split at hc
      · rename_i fi hfi
        split at hc
        · rename_i hsz; cases hc; exact s_sliceSl ho hu hfi hsz hx hlo hhi hR hE hs
        · cases hc
      · cases hc
    · cases hc
  · rename_i t x lo hi mx ho
    split at hc
    · rename_i e x' lo' hi' mx' hu hx hlo hhi hmx
      split at hc
      · rename_i fi hfi; cases hc; exact s_slice3 ho hu hfi hx hlo hhi hmx hE hs
      · cases hc
    · cases hc
  · rename_i t l m ho
    split at hc
    · rename_i e hu
      split at hc
      · rename_i sz b z l' m' he hl hm; cases hc; exact s_makeSlice ho hu he hl hm hR hE hs
      · cases hc
    · cases hc
  · rename_i t ho
    cases hc; exact s_makeMap ho hR hE hs
  · rename_i t m k ok ho
    split at hc
    · rename_i key e hu
      split at hc
      · rename_i sz b z m' k' q he hm hk hq; cases hc; exact s_lookup ho hu he hq hm hk hR hE hs
      · cases hc
    · cases hc
  · rename_i t m k x ho
    split at hc
    · rename_i key e hu
      split at hc
      · rename_i m' k' x' q hm hk hx hq; cases hc; exact s_mapUpdate (.inl ho) hu hq hm hk hx hR hE hs
      · cases hc
    · cases hc
  · rename_i t m k x ho
    split at hc
    · rename_i key e hu
      split at hc
      · rename_i m' k' x' q hm hk hx hq; cases hc; exact s_mapUpdate (.inr ho) hu hq hm hk hx hR hE hs
      · cases hc
    · cases hc
  · rename_i x i ho
    simp only [Option.map_eq_some_iff] at hc
    obtain ⟨x', hx, rfl⟩ := hc
    exact s_extract ho hx hR hE hs
  · rename_i t x ho
    split at hc
    · cases hc
    · rename_i desc x' hni hu hx
      cases hc
      exact s_makeIface ho hu (fun ms e => hni ms (e ▸ rfl)) hx hR hE hs
    · cases hc
  · rename_i b args ats ho
    have conv1 : ∀ {x : Operand} {t : TypeId}, args.toList = [x] → ats.toList = [t] → o.op = .call { callee := .builtin b, args := #[x], argTypes := #[t] } := by
      intro x t h1 h2
      rw [ho]
      have e1 : args = #[x] := by apply Array.ext'; simpa using h1
      have e2 : ats = #[t] := by apply Array.ext'; simpa using h2
      rw [e1, e2]
    have conv2 : ∀ {x y : Operand} {t u : TypeId}, args.toList = [x, y] → ats.toList = [t, u] → o.op = .call { callee := .builtin b, args := #[x, y], argTypes := #[t, u] } := by
      intro x y t u h1 h2
      rw [ho]
      have e1 : args = #[x, y] := by apply Array.ext'; simpa using h1
      have e2 : ats = #[t, u] := by apply Array.ext'; simpa using h2
      rw [e1, e2]
    have conv3 : ∀ {x y : Operand}, args.toList = [x, y] → o.op = .call { callee := .builtin b, args := #[x, y], argTypes := ats } := by
      intro x y h1
      rw [ho]
      have e1 : args = #[x, y] := by apply Array.ext'; simpa using h1
      rw [e1]
    split at hc
    · rename_i x t ha ht
      split at hc
      · rename_i x' hu hx; cases hc; exact s_len (conv1 ha ht) hu rfl hx hR hE hs
      · rename_i e x' hu hx; cases hc; exact s_len (conv1 ha ht) hu rfl hx hR hE hs
      · rename_i k e x' hu hx; cases hc; exact s_len (conv1 ha ht) hu rfl hx hR hE hs
      · rename_i n e x' hu hx; cases hc; exact s_lenArr (_x' := x') (conv1 ha ht) hu hR hE hs
      · cases hc
    · rename_i x t ha ht
      split at hc
      · rename_i e x' hu hx; cases hc; exact s_cap (conv1 ha ht) hu hx hR hE hs
      · cases hc
    · rename_i s x t u ha ht
      split at hc
      · rename_i e hu
        split at hc
        · rename_i sz b' z s' x' e' he hs' hx hu'
          split at hc
          · rename_i hee; subst hee; cases hc; exact s_append (conv2 ha ht) hu hu' he hs' hx hR hE hs
          · cases hc
        · rename_i sz b' z s' x' k he hs' hx hu'; cases hc; exact s_appendZ (conv2 ha ht) hu hu' he hs' hx hR hE hs
        · cases hc
      · cases hc
    · rename_i d s t u ha ht
      split at hc
      · rename_i e e' hu hu'
        split at hc
        · rename_i fi d' s' hfi hd hs'
          split at hc
          · cases hc; exact s_copy (conv2 ha ht) hu hfi hd hs' hR hE hs
          · cases hc
        · cases hc
      · cases hc
    · rename_i x t ha ht
      split at hc
      · rename_i e hu
        split at hc
        · rename_i sz b' z x' he hx; cases hc; exact s_clear (conv1 ha ht) hu he hx hR hE hs
        · cases hc
      · cases hc
    · rename_i x y ha
      split at hc
      · rename_i x' y' hx hy; cases hc; exact s_minmax (mx := true) (by simpa using conv3 ha) hx hy hR hE hs
      · cases hc
    · rename_i x y ha
      split at hc
      · rename_i x' y' hx hy; cases hc; exact s_minmax (mx := false) (by simpa using conv3 ha) hx hy hR hE hs
      · cases hc
    · cases hc; exact (fail_never hs).elim
  · rename_i f args ats ho
    split at hc
    · cases hc; exact absurd rfl (hnc _ _)
    · cases hc
  · cases hc; exact (fail_never hs).elim

theorem step_sound {d : DOp} (hc : compOp P o = some d) (hnc : ∀ f as, d ≠ .call f as) (hR : Rel h c) (hE : EnvR c env a) (hs : stepOp h env d = some (r, h')) : Steps1 P h c o a h' r := by
  have := stepT hc hnc hR hE hs
  unfold StepsT at this
  split at this
  · exact this
  · exact this.toSteps1 hR

theorem read_sound {d : DOp} (hc : compOp P o = some d) (ht : touches d = false) (hR : Rel h c) (hE : EnvR c env a) (hs : stepOp h env d = some (r, h')) : Steps0 P h c o a h' r := by
  have := stepT hc (fun f as e => by subst e; simp [touches] at ht) hR hE hs
  unfold StepsT at this
  rw [ht] at this
  exact this

end
end Go.Dm
