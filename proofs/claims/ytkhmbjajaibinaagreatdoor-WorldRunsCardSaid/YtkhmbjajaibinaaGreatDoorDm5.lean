/-
Part 5 of "Dm": more operations that write nothing.
-/
import Derived.Test.YtkhmbjajaibinaaGreatDoorDm4
namespace Go.Dm

section
variable {P : Program} {h h' : Heap} {c : Ctx} {env : Env} {a : Act} {o : Oper} {r : DV}

theorem s_un {op : UnOp} {t : TypeId} {x : Operand} {x' : Opd} (ho : o.op = .unOp op t x) (hx : opd x = some x') (_hR : Rel h c) (hE : EnvR c env a)
    (hs : stepOp h env (.un op x') = some (r, h')) : Steps0 P h c o a h' r := by
  have vx := opd_VR hx hE
  simp only [stepOp] at hs
  split at hs
  · rename_i v hv
    simp only [Option.some.injEq, Prod.mk.injEq] at hs
    obtain ⟨rfl, rfl⟩ := hs
    generalize hvx : a.eval x = wx at vx
    generalize x'.eval env = dx at vx hv
    cases vx <;> first | (simp [unD] at hv; done) | skip
    · cases op <;> simp [unD] at hv
      subst hv
      exact Steps0.value _ (by simp [execOp, ho, hvx, Op.unary]) (.bool _)
    · rename_i k n
      cases op <;> simp [unD] at hv
      subst hv
      refine Steps0.value (.int k (k.wrap (0 - n))) (by simp [execOp, ho, hvx, Op.unary, Op.intArith]) ?_
      simp only [Int.zero_sub]
      exact .int _ _
  · cases hs

theorem s_conv {k k0 : IntKind} {t u : TypeId} {x : Operand} {x' : Opd} (ho : o.op = .convert t u x) (ht : P.underlying t = some (.int k0)) (hu : P.underlying u = some (.int k)) (hx : opd x = some x') (_hR : Rel h c) (hE : EnvR c env a)
    (hs : stepOp h env (.conv k x') = some (r, h')) : Steps0 P h c o a h' r := by
  have vx := opd_VR hx hE
  simp only [stepOp] at hs
  split at hs
  · rename_i k1 n hv
    simp only [Option.some.injEq, Prod.mk.injEq] at hs
    obtain ⟨rfl, rfl⟩ := hs
    rw [hv] at vx
    generalize hvx : a.eval x = wx at vx
    cases vx
    exact Steps0.value (.int k (k.wrap n)) (by simp [execOp, ho, hvx, convert, run_underlying ht, run_underlying hu, Conv.intToInt]) (.int _ _)
  · cases hs

theorem s_asStr {t u : TypeId} {x : Operand} {x' : Opd} (ho : o.op = .convert t u x) (ht : P.underlying t = some .string) (hu : P.underlying u = some .string) (hx : opd x = some x') (_hR : Rel h c) (hE : EnvR c env a)
    (hs : stepOp h env (.asStr x') = some (r, h')) : Steps0 P h c o a h' r := by
  have vx := opd_VR hx hE
  simp only [stepOp] at hs
  split at hs
  · rename_i s hv
    simp only [Option.some.injEq, Prod.mk.injEq] at hs
    obtain ⟨rfl, rfl⟩ := hs
    rw [hv] at vx
    generalize hvx : a.eval x = wx at vx
    cases vx
    exact Steps0.value _ (by simp [execOp, ho, hvx, convert, run_underlying ht, run_underlying hu]) (.str _)
  · cases hs

theorem s_nilCheck {x : Operand} {x' : Opd} (ho : o.op = .nilCheck x) (hx : opd x = some x') (_hR : Rel h c) (hE : EnvR c env a) (hs : stepOp h env (.nilCheck x') = some (r, h')) : Steps0 P h c o a h' r := by
  have vx := opd_VR hx hE
  simp only [stepOp] at hs
  split at hs
  · rename_i hv
    simp only [Option.some.injEq, Prod.mk.injEq] at hs
    obtain ⟨rfl, rfl⟩ := hs
    rw [hv] at vx
    generalize hvx : a.eval x = wx at vx
    refine Steps0.value wx ?_ vx
    cases vx
    simp [execOp, ho, hvx]
  · rename_i hv
    simp only [Option.some.injEq, Prod.mk.injEq] at hs
    obtain ⟨rfl, rfl⟩ := hs
    rw [hv] at vx
    generalize hvx : a.eval x = wx at vx
    refine Steps0.value wx ?_ vx
    cases vx
    simp [execOp, ho, hvx]
  · cases hs

theorem s_load {n : Option Nat} {t : TypeId} {x : Operand} {x' : Opd} (ho : o.op = .load t x) (hn : nOf P t = some n) (hx : opd x = some x') (hR : Rel h c) (hE : EnvR c env a) (hs : stepOp h env (.load n x') = some (r, h')) : Steps0 P h c o a h' r := by
  have vx := opd_VR hx hE
  simp only [stepOp] at hs
  split at hs
  · rename_i v hv
    simp only [Option.some.injEq, Prod.mk.injEq] at hs
    obtain ⟨rfl, rfl⟩ := hs
    obtain ⟨b, o', off, cs, h1, h2, h3⟩ := loadP_view hR vx hv
    obtain ⟨u, h4, h5⟩ := pick_sound (P := P) h2 h3 hn
    exact Steps0.value u (by simp [execOp, ho, h1, Instr.loadAt, Instr.sureAddr, h4]) h5
  · cases hs

theorem s_fieldAddr {s : TypeId} {x : Operand} {x' : Opd} {f : Nat} {fs : Array Field} {fl : Field} {i : TypeInfo} (ho : o.op = .fieldAddr s x f) (hu : P.underlying s = some (.struct fs)) (hf : fs[f]? = some fl) (hi : P.info? fl.type = some i) (hsz : i.size ≠ 0)
    (hx : opd x = some x') (_hR : Rel h c) (hE : EnvR c env a) (hs : stepOp h env (.fieldAddr fl.offset x') = some (r, h')) : Steps0 P h c o a h' r := by
  have vx := opd_VR hx hE
  simp only [stepOp] at hs
  split at hs
  · rename_i id sz idx off hv
    simp only [Option.some.injEq, Prod.mk.injEq] at hs
    obtain ⟨rfl, rfl⟩ := hs
    rw [hv] at vx
    generalize hvx : a.eval x = wx at vx
    cases vx
    rename_i b base hρ
    refine Steps0.value (.pointer (some ⟨b, base + idx * sz + (off + fl.offset), none⟩)) ?_ (.ptr hρ)
    simp [execOp, ho, hvx, Instr.fieldAt, run_underlying hu, hf, Instr.sureAddr, fieldPlace, sizeOf, typeInfo, hi, hsz, Addr.add_lit, Nat.add_assoc]
  · rename_i l cs off hv
    simp only [Option.some.injEq, Prod.mk.injEq] at hs
    obtain ⟨rfl, rfl⟩ := hs
    rw [hv] at vx
    generalize hvx : a.eval x = wx at vx
    cases vx
    rename_i b o' vals hb hO hX hc hvv
    refine Steps0.value (.pointer (some ⟨b, o' + (off + fl.offset), none⟩)) ?_ (.iptr vals hb hO hX hc hvv)
    simp [execOp, ho, hvx, Instr.fieldAt, run_underlying hu, hf, Instr.sureAddr, fieldPlace, sizeOf, typeInfo, hi, hsz, Addr.add_lit, Nat.add_assoc]
  · cases hs

/-- A part of an aggregate. -/
theorem part_sound {n : Option Nat} {cs : List DV} {vs : List Value} {off : Nat} {d : DV} {t : TypeId} (hp : pickCells n cs off = some d) (hl : cs.length = vs.length) (h1 : ∀ i (h2 : i < vs.length), (vs[i]).oneCell' = true)
    (hv : ∀ i (h1 : i < cs.length) (h2 : i < vs.length), VR c cs[i] vs[i]) (hn : nOf P t = some n) (w : World) : ∃ u, (part t vs.toArray off).run P w = .ok u w ∧ VR c d u := by
  unfold nOf at hn
  unfold pickCells at hp
  have agg : ∀ (i : TypeInfo), P.info? t = some i → n = some i.size → (isAgg t).run P w = .ok true w → ∃ u, (part t vs.toArray off).run P w = .ok u w ∧ VR c d u := by
    intro i hi hn' hagg
    subst hn'
    simp only at hp
    split at hp
    · rename_i hle
      cases hp
      refine ⟨.agg (vs.toArray.extract off (off + i.size)), by simp [part, hagg, sizeOf, typeInfo, hi], ?_⟩
      have : vs.toArray.extract off (off + i.size) = ((vs.drop off).take i.size).toArray := by
        rw [List.extract_toArray, List.extract_eq_take_drop]
        congr 2
        omega
      rw [this]
      refine .agg (by simp; omega) (fun j hj => ?_) (fun j hj1 hj2 => ?_)
      · simp only [List.getElem_take, List.getElem_drop]; exact h1 _ _
      · simp only [List.getElem_take, List.getElem_drop]; exact hv _ _ _
    · cases hp
  split at hn
  · rename_i fs i hu hi; cases hn; exact agg i hi rfl (by simp [isAgg, run_underlying hu])
  · rename_i k e i hu hi; cases hn; exact agg i hi rfl (by simp [isAgg, run_underlying hu])
  · rename_i dd i hns hna hu hi
    cases hn
    simp only at hp
    obtain ⟨hlt, hr⟩ := List.getElem?_eq_some_iff.1 hp
    have hlt' : off < vs.length := by omega
    refine ⟨vs[off], ?_, hr ▸ hv off hlt hlt'⟩
    have hagg : (isAgg t).run P w = .ok false w := by
      simp only [isAgg, Sem.run_bind, run_underlying hu, Result.andThen_ok]
      cases dd <;> first | rfl | (exact absurd rfl (hns _)) | (exact absurd rfl (hna _ _))
    simp [part, hagg, hlt']
  · cases hn

theorem s_field {s : TypeId} {x : Operand} {x' : Opd} {f : Nat} {n : Option Nat} {fs : Array Field} {fl : Field} (ho : o.op = .field s x f) (hu : P.underlying s = some (.struct fs)) (hf : fs[f]? = some fl) (hn : nOf P fl.type = some n)
    (hx : opd x = some x') (_hR : Rel h c) (hE : EnvR c env a) (hs : stepOp h env (.field fl.offset n x') = some (r, h')) : Steps0 P h c o a h' r := by
  have vx := opd_VR hx hE
  simp only [stepOp] at hs
  split at hs
  · rename_i cs hv
    split at hs
    · rename_i v hp
      simp only [Option.some.injEq, Prod.mk.injEq] at hs
      obtain ⟨rfl, rfl⟩ := hs
      rw [hv] at vx
      obtain ⟨vs, hvx, hl, h1, hvs⟩ := vx.agg_inv
      obtain ⟨u, a1, a2⟩ := part_sound (P := P) (t := fl.type) hp hl h1 hvs hn c.w
      exact Steps0.value u (by simp [execOp, ho, hvx, Instr.field, run_underlying hu, hf, asAgg, a1]) a2
    · cases hs
  · cases hs

theorem asI_VR {d : DV} {v : Value} {n : Int} (ha : asI d = some n) (hv : VR c d v) : ∃ k, v = .int k n := by
  cases hv <;> simp [asI] at ha
  subst ha; exact ⟨_, rfl⟩

theorem s_indexAddr {t e : TypeId} {x y : Operand} {x' y' : Opd} {i : TypeInfo} (ho : o.op = .indexAddr t x y) (hu : P.underlying t = some (.slice e)) (hi : P.info? e = some i) (_hsz : 0 < i.size)
    (hx : opd x = some x') (hy : opd y = some y') (_hR : Rel h c) (hE : EnvR c env a) (hs : stepOp h env (.indexAddr i.size x' y') = some (r, h')) : Steps0 P h c o a h' r := by
  have vx := opd_VR hx hE
  have vy := opd_VR hy hE
  simp only [stepOp] at hs
  split at hs
  · rename_i n hn
    obtain ⟨k, hk⟩ := asI_VR hn vy
    split at hs
    · rename_i id sz off len hv
      split at hs
      · rename_i hcond
        obtain ⟨h1, h2, h3⟩ := hcond
        simp only [Option.some.injEq, Prod.mk.injEq] at hs
        obtain ⟨rfl, rfl⟩ := hs
        rw [hv] at vx
        obtain ⟨b, base, cap, coff, m, ety, hvx, hρ, hshape, hm, hlc, hco⟩ := vx.sl_inv
        have hcoff : coff = base + off * sz := hco.elim (fun e => e) (fun e => by omega)
        subst hcoff
        subst h1
        refine Steps0.value (.pointer (some ⟨b, base + (off + n.toNat) * i.size + 0, none⟩)) ?_ (.ptr hρ)
        simp [execOp, ho, hvx, hk, Instr.indexAt, asIntOf, run_underlying hu, h2, h3, sizeOf, typeInfo, hi, Addr.add_lit]
        rw [Nat.add_mul]; omega
      · cases hs
    · rename_i l sz xs hv
      split at hs
      · rename_i hcond
        obtain ⟨h1, h2⟩ := hcond
        split at hs
        · rename_i e' he'
          simp only [Option.some.injEq, Prod.mk.injEq] at hs
          obtain ⟨rfl, rfl⟩ := hs
          rw [hv] at vx
          obtain ⟨hlt, hee⟩ := List.getElem?_eq_some_iff.1 he'
          rcases vx.isl_inv with ⟨hnil, _⟩ | ⟨b, o', cap, vals, hvx, hcap, hb, hO, hX, hszs, hc, hvv⟩
          · subst hnil; simp at hlt
          · subst h1
            have hszi := hszs n.toNat hlt
            have key : VR c (.iptr l (ecells i.size xs[n.toNat]) 0) (.pointer (some ⟨b, o' + n.toNat * i.size + 0, none⟩)) :=
              .iptr (vals n.toNat) hb hO hX (fun j hj => hc n.toNat j hlt (by omega)) (fun j hj => hvv n.toNat hlt j hj)
            rw [hee] at key
            refine Steps0.value _ ?_ key
            have h3 : n < (xs.length : Int) := by omega
            simp [execOp, ho, hvx, hk, Instr.indexAt, asIntOf, run_underlying hu, h2, h3, sizeOf, typeInfo, hi, Addr.add_lit]
        · cases hs
      · cases hs
    · cases hs
  · cases hs

theorem s_indexArr {t e : TypeId} {len : Nat} {x y : Operand} {x' y' : Opd} {i : TypeInfo} (ho : o.op = .indexAddr t x y) (hu : P.underlying t = some (.array len e)) (hi : P.info? e = some i)
    (hx : opd x = some x') (hy : opd y = some y') (_hR : Rel h c) (hE : EnvR c env a) (hs : stepOp h env (.indexArr len i.size x' y') = some (r, h')) : Steps0 P h c o a h' r := by
  have vx := opd_VR hx hE
  have vy := opd_VR hy hE
  simp only [stepOp] at hs
  split at hs
  · rename_i n hn
    obtain ⟨k, hk⟩ := asI_VR hn vy
    split at hs
    · rename_i hcond
      obtain ⟨h2, h3⟩ := hcond
      split at hs
      · rename_i id sz idx off hv
        simp only [Option.some.injEq, Prod.mk.injEq] at hs
        obtain ⟨rfl, rfl⟩ := hs
        rw [hv] at vx
        generalize hvx : a.eval x = wx at vx
        cases vx
        rename_i b base hρ
        refine Steps0.value (.pointer (some ⟨b, base + idx * sz + (off + n.toNat * i.size), none⟩)) ?_ (.ptr hρ)
        simp [execOp, ho, hvx, hk, Instr.indexAt, Instr.sureAddr, asIntOf, run_underlying hu, h2, h3, sizeOf, typeInfo, hi, Addr.add_lit, Nat.add_assoc]
      · rename_i l cs off hv
        simp only [Option.some.injEq, Prod.mk.injEq] at hs
        obtain ⟨rfl, rfl⟩ := hs
        rw [hv] at vx
        generalize hvx : a.eval x = wx at vx
        cases vx
        rename_i b o' vals hb hO hX hc hvv
        refine Steps0.value (.pointer (some ⟨b, o' + (off + n.toNat * i.size), none⟩)) ?_ (.iptr vals hb hO hX hc hvv)
        simp [execOp, ho, hvx, hk, Instr.indexAt, Instr.sureAddr, asIntOf, run_underlying hu, h2, h3, sizeOf, typeInfo, hi, Addr.add_lit, Nat.add_assoc]
      · cases hs
    · cases hs
  · cases hs

theorem s_index {t e : TypeId} {len : Nat} {n : Option Nat} {x y : Operand} {x' y' : Opd} {i : TypeInfo} (ho : o.op = .index t x y) (hu : P.underlying t = some (.array len e)) (hi : P.info? e = some i) (hn : nOf P e = some n)
    (hx : opd x = some x') (hy : opd y = some y') (_hR : Rel h c) (hE : EnvR c env a) (hs : stepOp h env (.index len i.size n x' y') = some (r, h')) : Steps0 P h c o a h' r := by
  have vx := opd_VR hx hE
  have vy := opd_VR hy hE
  simp only [stepOp] at hs
  split at hs
  · rename_i m cs hm hv
    obtain ⟨k, hk⟩ := asI_VR hm vy
    split at hs
    · rename_i hcond
      obtain ⟨h2, h3⟩ := hcond
      split at hs
      · rename_i v hp
        simp only [Option.some.injEq, Prod.mk.injEq] at hs
        obtain ⟨rfl, rfl⟩ := hs
        rw [hv] at vx
        obtain ⟨vs, hvx, hl, h1, hvs⟩ := vx.agg_inv
        obtain ⟨u, a1, a2⟩ := part_sound (P := P) (t := e) hp hl h1 hvs hn c.w
        refine Steps0.value u ?_ a2
        simp [execOp, ho, hvx, hk, Instr.index, asIntOf, run_underlying hu, h2, h3, sizeOf, typeInfo, hi, a1]
      · cases hs
    · cases hs
  · cases hs

theorem s_indexStr {t : TypeId} {x y : Operand} {x' y' : Opd} (ho : o.op = .index t x y) (hu : P.underlying t = some .string)
    (hx : opd x = some x') (hy : opd y = some y') (_hR : Rel h c) (hE : EnvR c env a) (hs : stepOp h env (.indexStr x' y') = some (r, h')) : Steps0 P h c o a h' r := by
  have vx := opd_VR hx hE
  have vy := opd_VR hy hE
  simp only [stepOp] at hs
  split at hs
  · rename_i m s hm hv
    obtain ⟨k, hk⟩ := asI_VR hm vy
    split at hs
    · rename_i h2
      split at hs
      · rename_i b hb
        simp only [Option.some.injEq, Prod.mk.injEq] at hs
        obtain ⟨rfl, rfl⟩ := hs
        rw [hv] at vx
        generalize hvx : a.eval x = wx at vx
        cases vx
        refine Steps0.value (.int .u8 b.toNat) ?_ (.int _ _)
        obtain ⟨hlt, hbb⟩ := List.getElem?_eq_some_iff.1 hb
        have hg : (⟨s.toArray⟩ : ByteArray)[m.toNat]? = some b := by
          have hsz : m.toNat < (⟨s.toArray⟩ : ByteArray).size := by simp [ByteArray.size]; exact hlt
          rw [getElem?_pos (⟨s.toArray⟩ : ByteArray) m.toNat hsz]
          exact congrArg some hbb
        simp [execOp, ho, hvx, hk, Instr.index, asIntOf, run_underlying hu, h2, hg]
      · cases hs
    · cases hs
  · cases hs

/-- A bound of a slice expression. -/
theorem bound_sound {oo : Option Operand} {o' : Option Opd} (hoo : optOpd oo = some o') (hE : EnvR c env a) {dflt lim n : Nat} (hb : bound env o' dflt lim = some n) (code : BoundsCode) (w : World) :
    (oo = none ∧ n = dflt) ∨ (∃ x, oo = some x ∧ n ≤ lim ∧ ∀ lim', n ≤ lim' → (Instr.sliceBound (a.eval x) lim' code).run P w = .ok n w) := by
  unfold optOpd at hoo
  split at hoo
  · cases hoo; simp [bound] at hb; exact .inl ⟨rfl, hb.symm⟩
  · rename_i x
    simp only [Option.map_eq_some_iff] at hoo
    obtain ⟨x', hx, rfl⟩ := hoo
    have vx := opd_VR hx hE
    simp only [bound] at hb
    split at hb
    · rename_i m hm
      obtain ⟨k, hk⟩ := asI_VR hm vx
      split at hb
      · rename_i hcond
        cases hb
        refine .inr ⟨x, rfl, by omega, fun lim' hl => ?_⟩
        have : m ≤ (lim' : Int) := by omega
        simp [Instr.sliceBound, hk, asIntOf, hcond.1, this]
      · cases hb
    · cases hb

theorem bounds_sound {lo hi : Option Operand} {lo' hi' : Option Opd} (hlo : optOpd lo = some lo') (hhi : optOpd hi = some hi') (hE : EnvR c env a) {len lim m n cap : Nat} (isS : Bool) (hlen : len ≤ cap) (hlim : lim ≤ cap)
    (h1 : bound env hi' len lim = some n) (h2 : bound env lo' 0 n = some m) (w : World) :
    (Instr.sliceBounds isS len cap (lo.map a.eval) (hi.map a.eval) none).run P w = .ok (m, n, cap) w ∧ m ≤ n ∧ n ≤ cap := by
  rcases bound_sound (P := P) hhi hE h1 (if isS then .sliceAcap else .sliceAlen) w with ⟨rfl, rfl⟩ | ⟨y, rfl, hn, hy⟩ <;>
    rcases bound_sound (P := P) hlo hE h2 .sliceB w with ⟨rfl, rfl⟩ | ⟨x, rfl, hm, hx⟩
  · exact ⟨by simp [Instr.sliceBounds], by omega, hlen⟩
  · exact ⟨by simp [Instr.sliceBounds, hx _ hm], hm, hlen⟩
  · exact ⟨by simp [Instr.sliceBounds, hy _ (Nat.le_trans hn hlim)], by omega, by omega⟩
  · exact ⟨by simp [Instr.sliceBounds, hy _ (Nat.le_trans hn hlim), hx _ hm], hm, by omega⟩

theorem s_sliceStr {t : TypeId} {x : Operand} {lo hi : Option Operand} {x' : Opd} {lo' hi' : Option Opd} (ho : o.op = .slice t x lo hi none) (hu : P.underlying t = some .string) (hx : opd x = some x') (hlo : optOpd lo = some lo') (hhi : optOpd hi = some hi')
    (_hR : Rel h c) (hE : EnvR c env a) (hs : stepOp h env (.sliceStr x' lo' hi') = some (r, h')) : Steps0 P h c o a h' r := by
  have vx := opd_VR hx hE
  simp only [stepOp] at hs
  split at hs
  · rename_i s hv
    split at hs
    · rename_i n hn
      split at hs
      · rename_i m hm
        simp only [Option.some.injEq, Prod.mk.injEq] at hs
        obtain ⟨rfl, rfl⟩ := hs
        rw [hv] at vx
        generalize hvx : a.eval x = wx at vx
        cases vx
        have hsz : (⟨s.toArray⟩ : ByteArray).size = s.length := by simp [ByteArray.size]
        obtain ⟨b1, b2, b3⟩ := bounds_sound (P := P) hlo hhi hE (cap := s.length) false (Nat.le_refl _) (Nat.le_refl _) hn hm c.w
        refine Steps0.value (.string ((⟨s.toArray⟩ : ByteArray).extract m n)) ?_ ?_
        · simp [execOp, ho, hvx, Instr.sliceAt, Instr.slice, run_underlying hu, hsz, b1]
        · have : (⟨s.toArray⟩ : ByteArray).extract m n = ⟨((s.drop m).take (n - m)).toArray⟩ := by
            apply ByteArray.ext
            simp [ByteArray.data_extract, List.extract_toArray, List.extract_eq_take_drop]
          rw [this]; exact .str _
      · cases hs
    · cases hs
  · cases hs

end
end Go.Dm
