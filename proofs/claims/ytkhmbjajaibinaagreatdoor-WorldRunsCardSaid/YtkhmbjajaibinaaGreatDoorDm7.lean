/-
Part 7 of "Dm": '==' on structs and arrays; building them.
-/
import Derived.Test.YtkhmbjajaibinaaGreatDoorDm6
import Derived.ChangeKeysEq
namespace Go.Dm

section
variable {P : Program} {h h' : Heap} {c : Ctx} {env : Env} {a : Act} {o : Oper} {r : DV}

theorem cellsEq_append : ∀ (k1 k2 : List Nat) (xs ys : List DV) (b : Bool), cellsEq (k1 ++ k2) xs ys = some b →
    ∃ b1 b2, cellsEq k1 (xs.take k1.length) (ys.take k1.length) = some b1 ∧ cellsEq k2 (xs.drop k1.length) (ys.drop k1.length) = some b2 ∧ b = (b1 && b2) := by
  intro k1
  induction k1 with
  | nil => intro k2 xs ys b hh; exact ⟨true, b, by simp [cellsEq], by simpa using hh, by simp⟩
  | cons k k1 ih =>
    intro k2 xs ys b hh
    cases xs with
    | nil => simp [cellsEq] at hh
    | cons x xs =>
      cases ys with
      | nil => simp [cellsEq] at hh
      | cons y ys =>
        simp only [List.cons_append, cellsEq] at hh
        split at hh
        · rename_i b0 hb0
          split at hh
          · rename_i b' hb'
            obtain ⟨b1, b2, h1, h2, rfl⟩ := ih k2 xs ys b' hb'
            cases hh
            exact ⟨b0 && b1, b2, by simp [cellsEq, hb0, h1], by simpa using h2, by rw [Bool.and_assoc]⟩
          · cases hh
        · cases hh

theorem cellsEq_len : ∀ (ks : List Nat) (xs ys : List DV) (b : Bool), cellsEq ks xs ys = some b → xs.length = ks.length ∧ ys.length = ks.length := by
  intro ks
  induction ks with
  | nil => intro xs ys b hh; cases xs <;> cases ys <;> simp_all [cellsEq]
  | cons k ks ih =>
    intro xs ys b hh
    cases xs with
    | nil => simp [cellsEq] at hh
    | cons x xs =>
      cases ys with
      | nil => simp [cellsEq] at hh
      | cons y ys =>
        simp only [cellsEq] at hh
        split at hh
        · split at hh
          · rename_i b' hb'
            have := ih xs ys b' hb'
            simp [this.1, this.2]
          · cases hh
        · cases hh

def isAggTy (P : Program) (t : TypeId) : Bool := match P.underlying t with | some (.struct _) | some (.array _ _) => true | _ => false

/-- A value of a type over cells. -/
def PartR (P : Program) (c : Ctx) (t : TypeId) (cs : List DV) (x : Value) : Prop :=
  if isAggTy P t then ∃ vs : List Value, x = .agg vs.toArray ∧ VRs c cs vs else ∃ d, cs = [d] ∧ VR c d x

/-- '==' at a type is as its cells are. -/
def EqF (P : Program) (dd : Nat) (t : TypeId) (ks : List Nat) : Prop :=
  ∀ (c : Ctx) (cs ds : List DV) (x y : Value) (b : Bool) (w : World), PartR P c t cs x → PartR P c t ds y → cellsEq ks cs ds = some b → (Op.equalIn dd t x y).run P w = .ok b w

theorem flatK_facts : ∀ {d : Nat} {t : TypeId} {ks : List Nat}, flatK P d t = some ks → (∃ i, P.info? t = some i ∧ i.size = ks.length) ∧ 0 < ks.length
  | 0, t, ks, hk => by simp [flatK] at hk
  | d + 1, t, ks, hk => by
    unfold flatK at hk
    split at hk
    all_goals first | cases hk | skip
    · rename_i i _ hi; split at hk <;> cases hk; exact ⟨⟨i, hi, by assumption⟩, by simp⟩
    · rename_i i _ hi; split at hk <;> cases hk; exact ⟨⟨i, hi, by assumption⟩, by simp⟩
    · rename_i i _ hi; split at hk <;> cases hk; exact ⟨⟨i, hi, by assumption⟩, by simp⟩
    · rename_i fs i _ hi
      split at hk
      · split at hk
        · split at hk
          · rename_i hs; cases hk; exact ⟨⟨i, hi, hs.1⟩, hs.2⟩
          · cases hk
        · cases hk
      · cases hk
    · rename_i n e i _ hi
      split at hk
      · split at hk
        · split at hk
          · rename_i ks' hks' hs
            cases hk
            have := (flatK_facts hks').2
            refine ⟨⟨i, hi, ?_⟩, ?_⟩
            · rw [hs.1]
              simp [List.length_flatten]
            · simp [List.length_flatten, Nat.mul_pos hs.2 this]
          · cases hk
        · cases hk
      · cases hk

theorem flatK_info {d : Nat} {t : TypeId} {ks : List Nat} (hk : flatK P d t = some ks) : ∃ i, P.info? t = some i ∧ i.size = ks.length := (flatK_facts hk).1
theorem flatK_pos {d : Nat} {t : TypeId} {ks : List Nat} (hk : flatK P d t = some ks) : 0 < ks.length := (flatK_facts hk).2

theorem run_isAgg {t : TypeId} {i : TypeInfo} (_hi : P.info? t = some i) {w : World} (hu : ∃ d, P.underlying t = some d) : (isAgg t).run P w = .ok (isAggTy P t) w := by
  obtain ⟨d, hu⟩ := hu
  simp only [isAgg, Sem.run_bind, run_underlying hu, Result.andThen_ok, isAggTy, hu]
  cases d <;> rfl

theorem flatK_und {d : Nat} {t : TypeId} {ks : List Nat} (hk : flatK P d t = some ks) : ∃ d, P.underlying t = some d := by
  cases d with
  | zero => simp [flatK] at hk
  | succ d =>
    unfold flatK at hk
    split at hk
    all_goals first | cases hk | exact ⟨_, by assumption⟩

theorem flatK_prim {d : Nat} {t : TypeId} {ks : List Nat} (hk : flatK P d t = some ks) (ha : isAggTy P t = false) : ks.length = 1 := by
  cases d with
  | zero => simp [flatK] at hk
  | succ d =>
    unfold flatK at hk
    split at hk
    all_goals first | cases hk | skip
    · split at hk <;> cases hk; rfl
    · split at hk <;> cases hk; rfl
    · split at hk <;> cases hk; rfl
    · rename_i hu _; simp [isAggTy, hu] at ha
    · rename_i hu _; simp [isAggTy, hu] at ha

theorem run_partR {d : Nat} {t : TypeId} {ks : List Nat} (hk : flatK P d t = some ks) {cs : List DV} {vs : List Value} (hv : VRs c cs vs) {off : Nat} (hle : off + ks.length ≤ cs.length) (w : World) :
    ∃ x, (part t vs.toArray off).run P w = .ok x w ∧ PartR P c t ((cs.drop off).take ks.length) x := by
  obtain ⟨i, hi, hsz⟩ := flatK_info hk
  have hag := run_isAgg hi (w := w) (flatK_und hk)
  have hl := hv.1
  unfold PartR
  cases hA : isAggTy P t
  · have h1 := flatK_prim hk hA
    rw [hA] at hag
    have hlt : off < cs.length := by omega
    have hlt' : off < vs.length := by omega
    refine ⟨vs[off], by simp [part, hag, hlt'], ?_⟩
    simp only [Bool.false_eq_true, if_false]
    refine ⟨cs[off], ?_, hv.2 off hlt hlt'⟩
    rw [h1, List.take_one, List.head?_drop, List.getElem?_eq_getElem hlt]
    rfl
  · rw [hA] at hag
    refine ⟨.agg (vs.toArray.extract off (off + i.size)), by simp [part, hag, sizeOf, typeInfo, hi], ?_⟩
    simp only [if_true]
    refine ⟨(vs.drop off).take ks.length, ?_, by simp [hl], fun j h1 h2 => ?_⟩
    · rw [List.extract_toArray, List.extract_eq_take_drop, hsz]
      congr 2
      simp
    · simp only [List.getElem_take, List.getElem_drop]
      exact hv.2 _ _ _

theorem eqFields_flat (dd : Nat) {d : Nat} {cs ds : List DV} {vs us : List Value} (hv : VRs c cs vs) (hu : VRs c ds us) (w : World) : ∀ (fs : List Field) (off : Nat) (ks : List Nat) (b : Bool),
    (∀ f ∈ fs, ∀ k, flatK P d f.type = some k → EqF P dd f.type k) → flatGo (flatK P d) fs off = some ks → cellsEq ks (cs.drop off) (ds.drop off) = some b →
    (Op.eqFields dd vs.toArray us.toArray fs).run P w = .ok b w
  | [], off, ks, b, _, hg, he => by
    simp only [flatGo] at hg
    cases hg
    have := cellsEq_len _ _ _ _ he
    cases hcs : cs.drop off <;> cases hds : ds.drop off <;> rw [hcs, hds] at he <;> simp [cellsEq] at he
    subst he
    simp [Op.eqFields]
  | f :: fs, off, ks, b, hall, hg, he => by
    simp only [flatGo] at hg
    split at hg
    · rename_i hcond
      split at hg
      · rename_i k1 hk1
        split at hg
        · rename_i k2 hk2
          cases hg
          obtain ⟨b1, b2, e1, e2, rfl⟩ := cellsEq_append _ _ _ _ _ he
          have hlen := cellsEq_len _ _ _ _ e1
          simp only [List.length_take, List.length_drop] at hlen
          have hpos := flatK_pos hk1
          obtain ⟨x, px, rx⟩ := run_partR (P := P) hk1 hv (off := off) (by omega) w
          obtain ⟨y, py, ry⟩ := run_partR (P := P) hk1 hu (off := off) (by omega) w
          have hr := hall f (by simp) k1 hk1 c _ _ x y b1 w rx ry e1
          have ih := eqFields_flat dd hv hu w fs (off + k1.length) k2 b2 (fun g hgm => hall g (by simp [hgm])) hk2 (by rw [← List.drop_drop, ← List.drop_drop]; exact e2)
          simp only [Op.eqFields, hcond.1, ne_eq, not_false_eq_true, if_true, Sem.run_bind, hcond.2, px, py, hr, Result.andThen_ok]
          cases b1
          · simp
          · simpa using ih
        · cases hg
      · cases hg
    · cases hg

theorem eqItems_flat (dd : Nat) {d : Nat} {e : TypeId} {ks : List Nat} (hk : flatK P d e = some ks) (IH : EqF P dd e ks) {cs ds : List DV} {vs us : List Value} (hv : VRs c cs vs) (hu : VRs c ds us) (w : World) : ∀ (n i : Nat) (b : Bool),
    cellsEq (List.replicate n ks).flatten (cs.drop (i * ks.length)) (ds.drop (i * ks.length)) = some b → (Op.eqItems dd e ks.length vs.toArray us.toArray (List.range' i n)).run P w = .ok b w
  | 0, i, b, he => by
    have := cellsEq_len _ _ _ _ he
    simp only [List.replicate_zero, List.flatten_nil] at he
    cases hcs : cs.drop (i * ks.length) <;> cases hds : ds.drop (i * ks.length) <;> rw [hcs, hds] at he <;> simp [cellsEq] at he
    subst he
    simp [Op.eqItems]
  | n + 1, i, b, he => by
    simp only [List.replicate_succ, List.flatten_cons] at he
    obtain ⟨b1, b2, e1, e2, rfl⟩ := cellsEq_append _ _ _ _ _ he
    have hlen := cellsEq_len _ _ _ _ e1
    simp only [List.length_take, List.length_drop] at hlen
    have hpos := flatK_pos hk
    obtain ⟨x, px, rx⟩ := run_partR (P := P) hk hv (off := i * ks.length) (by omega) w
    obtain ⟨y, py, ry⟩ := run_partR (P := P) hk hu (off := i * ks.length) (by omega) w
    have hr := IH c _ _ x y b1 w rx ry e1
    have ih := eqItems_flat dd hk IH hv hu w n (i + 1) b2 (by rw [Nat.add_mul, Nat.one_mul, ← List.drop_drop, ← List.drop_drop]; exact e2)
    simp only [List.range'_succ, Op.eqItems, Sem.run_bind, px, py, hr, Result.andThen_ok]
    cases b1
    · simp
    · simpa using ih

theorem eqF_flat : ∀ (m d : Nat) (t : TypeId) (ks : List Nat), flatK P m t = some ks → EqF P (d + m) t ks
  | 0, d, t, ks, hk => by simp [flatK] at hk
  | m + 1, d, t, ks, hk => by
    intro c cs ds x y b w hx hy he
    have hk0 := hk
    unfold flatK at hk
    split at hk
    all_goals first | cases hk | skip
    · rename_i i hu hi
      split at hk <;> cases hk
      simp only [PartR, isAggTy, hu, Bool.false_eq_true, if_false] at hx hy
      obtain ⟨dx, rfl, vx⟩ := hx
      obtain ⟨dy, rfl, vy⟩ := hy
      cases vx <;> cases vy <;> simp [cellsEq, primEq] at he
      subst he
      exact run_equalIn_bool' w (d + m) t _ _ hu
    · rename_i q i hu hi
      split at hk <;> cases hk
      simp only [PartR, isAggTy, hu, Bool.false_eq_true, if_false] at hx hy
      obtain ⟨dx, rfl, vx⟩ := hx
      obtain ⟨dy, rfl, vy⟩ := hy
      cases vx <;> cases vy <;> simp [cellsEq, primEq] at he
      rename_i k1 n1 k2 n2
      by_cases hkk : k1 = k2
      · subst hkk
        simp at he
        subst he
        exact run_equalIn_int w (d + m) t _ _ _ _ hu
      · simp [hkk] at he
    · rename_i i hu hi
      split at hk <;> cases hk
      simp only [PartR, isAggTy, hu, Bool.false_eq_true, if_false] at hx hy
      obtain ⟨dx, rfl, vx⟩ := hx
      obtain ⟨dy, rfl, vy⟩ := hy
      cases vx <;> cases vy <;> simp [cellsEq, primEq] at he
      subst he
      rw [show d + (m + 1) = (d + m) + 1 from rfl, run_equalIn_string w (d + m) t _ _ hu]
      rw [ByteArray.toList_eq, ByteArray.toList_eq]
    · rename_i fs i hu hi
      split at hk
      · rename_i hcond
        split at hk
        · rename_i kk hkk
          split at hk
          · cases hk
            simp only [PartR, isAggTy, hu, if_true] at hx hy
            obtain ⟨vs, rfl, hv⟩ := hx
            obtain ⟨us, rfl, huu⟩ := hy
            have hfs : P.fieldsOf t = fs := by simp [Program.fieldsOf, hu]
            rw [show d + (m + 1) = (d + m) + 1 from rfl, run_equalIn_struct w (d + m) t _ _ (by rw [hfs]; exact hu) hcond.1, hfs]
            exact eqFields_flat (d + m) hv huu w fs.toList 0 _ b (fun f _ k hf => eqF_flat m d f.type k hf) hkk (by simpa using he)
          · cases hk
        · cases hk
      · cases hk
    · rename_i n e i hu hi
      split at hk
      · split at hk
        · rename_i kk hkk
          split at hk
          · cases hk
            simp only [PartR, isAggTy, hu, if_true] at hx hy
            obtain ⟨vs, rfl, hv⟩ := hx
            obtain ⟨us, rfl, huu⟩ := hy
            obtain ⟨ie, hie, hse⟩ := flatK_info hkk
            rw [show d + (m + 1) = (d + m) + 1 from rfl, run_equalIn_array w (d + m) _ _ hu hie]
            have hce : P.cellsOf e = kk.length := by simp [Program.cellsOf, hie, hse]
            rw [hce, List.range_eq_range']
            exact eqItems_flat (d + m) hkk (eqF_flat m d e kk hkk) hv huu w n 0 b (by simpa using he)
          · cases hk
        · cases hk
      · cases hk

theorem flatK_guard {d : Nat} {t : TypeId} {ks : List Nat} (hk : flatK P d t = some ks) (ha : isAggTy P t = true) : P.eqGuardType P.depth t = false := by
  cases d with
  | zero => simp [flatK] at hk
  | succ d =>
    unfold flatK at hk
    split at hk
    all_goals first | cases hk | skip
    · rename_i hu _; simp [isAggTy, hu] at ha
    · rename_i hu _; simp [isAggTy, hu] at ha
    · rename_i hu _; simp [isAggTy, hu] at ha
    · split at hk
      · rename_i hcond; exact hcond.2
      · cases hk
    · split at hk
      · assumption
      · cases hk

/-- What is compared by a type's own way, in the model. -/
theorem eqBy_sound {t : TypeId} {q : EqT} (hq : eqT P t = some q) {dx dy : DV} {b : Bool} (he : eqBy q dx dy = some b) {x y : Value} (hx : VR c dx x) (hy : VR c dy y) (w : World) : (Op.equal t x y).run P w = .ok b w := by
  unfold eqT at hq
  split at hq
  · rename_i hu; cases hq
    cases hx <;> cases hy <;> simp [eqBy, primEq] at he
    subst he
    simpa [Op.equal, Op.maxDepth] using run_equalIn_bool' w 9999 t _ _ hu
  · rename_i k hu; cases hq
    cases hx <;> cases hy <;> simp [eqBy, primEq] at he
    obtain ⟨rfl, rfl⟩ := he
    simpa [Op.equal, Op.maxDepth] using run_equalIn_int w 9999 t _ _ _ _ hu
  · rename_i hu; cases hq
    cases hx <;> cases hy <;> simp [eqBy, primEq] at he
    subst he
    rename_i s1 s2
    have := run_equalIn_string (P := P) w 9999 t ⟨s1.toArray⟩ ⟨s2.toArray⟩ hu
    rw [ByteArray.toList_eq, ByteArray.toList_eq] at this
    simpa [Op.equal, Op.maxDepth] using this
  all_goals first
    | (cases hq; done)
    | (rename_i hu
       simp only [Option.map_eq_some_iff] at hq
       obtain ⟨ks, hks, rfl⟩ := hq
       unfold eqBy at he
       split at he <;> first | (cases he; done) | skip
       all_goals first
         | (exfalso; simp_all; done)
         | (rename_i heq
            simp only [EqT.agg.injEq] at heq
            subst heq
            obtain ⟨vs, rfl, hl, h1, hv⟩ := hx.agg_inv
            obtain ⟨us, rfl, hl', h1', hv'⟩ := hy.agg_inv
            have := eqF_flat (P := P) 20 9980 t _ hks c _ _ (.agg vs.toArray) (.agg us.toArray) b w (by simp only [PartR, isAggTy, hu, if_true]; exact ⟨vs, rfl, hl, hv⟩) (by simp only [PartR, isAggTy, hu, if_true]; exact ⟨us, rfl, hl', hv'⟩) he
            simpa [Op.equal, Op.maxDepth] using this))

theorem eqBy_bin {t : TypeId} {neq : Bool} {ks : List Nat} {dx dy : DV} {b : Bool} (hg : P.eqGuardType P.depth t = false) (he : eqBy (.agg ks) dx dy = some b) {vx vy : Value} (hx : VR c dx vx) (hy : VR c dy vy) {x y : Operand} (w : World) (h1 : (Op.equal t vx vy).run P w = .ok b w) :
    (eqGuard (if neq then .neq else .eql) t x y vx vy).run P w = .ok () w ∧ (binOp (if neq then .neq else .eql) t vx vy).run P w = .ok (.bool (if neq then !b else b)) w := by
  unfold eqBy at he
  split at he <;> first | (cases he; done) | skip
  all_goals first
    | (exfalso; simp_all; done)
    | (obtain ⟨vs, rfl, hl, h1', hv⟩ := hx.agg_inv
       obtain ⟨us, rfl, hl', h1'', hv'⟩ := hy.agg_inv
       exact ⟨run_eqGuard_agg w _ t x y _ _ hg, by cases neq <;> simp [binOp, h1]⟩)

theorem s_eqa {neq : Bool} {t u : TypeId} {ks : List Nat} {x y : Operand} {x' y' : Opd} (ho : o.op = .binOp (if neq then .neq else .eql) t x y u) (hag : isAggTy P t = true) (hk : flatK P 20 t = some ks) (hx : opd x = some x') (hy : opd y = some y')
    (_hR : Rel h c) (hE : EnvR c env a) (hs : stepOp h env (.eqa neq ks x' y') = some (r, h')) : Steps0 P h c o a h' r := by
  have vx := opd_VR hx hE
  have vy := opd_VR hy hE
  simp only [stepOp] at hs
  split at hs
  · rename_i b hb
    simp only [Option.some.injEq, Prod.mk.injEq] at hs
    obtain ⟨rfl, rfl⟩ := hs
    have hq : eqT P t = some (.agg ks) := by
      unfold isAggTy at hag
      unfold eqT
      split at hag
      · rename_i hu; simp [hu, hk]
      · rename_i hu; simp [hu, hk]
      · cases hag
    have h1 := eqBy_sound (P := P) hq hb vx vy c.w
    obtain ⟨g1, g2⟩ := eqBy_bin (P := P) (neq := neq) (x := x) (y := y) (flatK_guard hk hag) hb vx vy c.w h1
    exact Steps0.value (.bool (if neq then !b else b)) (by simp [execOp, ho, g1, g2]) (.bool _)
  · cases hs

end
end Go.Dm
