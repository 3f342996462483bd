/-
Part 32 of "Dm": what stands in the place of slices.Clone: whether a slice without elements is nil is not asked.
-/
import Derived.Test.YtkhmbjajaibinaaGreatDoorDm30
namespace Go.Dm

/-- Clone: a row of its own; of none, none. -/
def cloneHook (ety sz bytes : Nat) : Hook := fun h args =>
  match args with
  | [v] => match elems h sz v with
    | some ys =>
      if ys.isEmpty then some (.nsl, h.push .dead)
      else if ys.length * bytes ≤ 140737488355328 ∧ ys.length ≤ 9223372036854775807 then some (.sl (h.n + 1) sz 0 ys.length, (h.push (.arr ety sz [] (some 0))).push (.arr ety sz ys none))
      else none
    | none => none
  | _ => none

/-- No function at all. -/
def noneD : DProg := { fn := fun _ => none, hook := fun _ => none }

theorem noneD_good {P : Program} (hm : P.follows .mixedOrders = true) : Good P noneD where
  mixed := hm
  comp := fun f df h => by cases h
  hooks := fun f hk h => by cases h
  keep := fun f hk h => by cases h

theorem elems_push {h : Heap} {o : DO} {sz : Nat} {v : DV} {ys : List DV} (he : elems h sz v = some ys) : elems (h.push o) sz v = some ys := by
  unfold elems at he ⊢
  split at he
  · exact he
  · exact he
  · split at he
    · rename_i hg
      rw [get_push_old (get_lt hg), hg]
      exact he
    · cases he
  · cases he

/-- An object that is nothing. -/
theorem Rel.pushDead {h : Heap} {c : Ctx} (hR : Rel h c) : ∃ ρ', Rel (h.push .dead) (c.next c.w ρ' (h.push .dead)) ∧ CtxLe c (c.next c.w ρ' (h.push .dead)) := by
  obtain ⟨k1, k2⟩ := hR.push .dead c.w c.w.heap.size 0 (Nat.le_refl _) (Nat.le_refl _) (fun _ _ => rfl) (.refl _) (fun _ => trivial)
  exact ⟨_, k1, k2⟩

theorem push_dead {h : Heap} {o : DO} : (h.push o).set h.n .dead = h.push .dead := by
  simp [Heap.push, Heap.set]

theorem run_eql_nilN {P : Program} {t e : TypeId} (hu : P.underlying t = some (.slice e)) (ad : Option Addr) (n cap : Nat) (k : Nat) (w : World) :
    (Op.equalIn (k + 1) t (.slice ad n cap) (.slice none 0 0)).run P w = .ok ad.isNone w := by
  cases ad <;> simp [Op.equalIn, run_underlying hu]

theorem run_eql_nil {P : Program} {t e : TypeId} (hu : P.underlying t = some (.slice e)) (ad : Option Addr) (n cap : Nat) (w : World) :
    (Op.equal t (.slice ad n cap) (.slice none 0 0)).run P w = .ok ad.isNone w := run_eql_nilN hu ad n cap 9999 w

/-- The text of slices.Clone. -/
structure CloneText (P : Program) (fn : Func) (ety sz bytes : Nat) (z : DV) where
  (r0 r1 r2 r3 : Nat) (os0 os2 os3 : Array Oper) (o2 o3 : Oper) (t u : TypeId) (e : TypeId)
  body : fn.body = some (.seq (.region r0 os0 false) (.seq (.seq (.region r1 #[o2, o3] false) (.cond (.tmp 4) (.seq (.region r2 os2 false) .ret) .skip)) (.seq (.region r3 os3 false) .ret)))
  hA : compCode P (.region r0 os0 false) = some (.region [⟨some 2, .move (.c .nsl), none, .write, 0⟩])
  h2 : compOper P [o2, o3] .write 0 o2 = some ⟨some 3, .move (.t 0), none, .write, 0⟩
  h3 : o3.op = .binOp .eql t (.tmp 3) (.const (.slice none 0 0)) u
  h3d : o3.dst = some 4
  h3g : o3.guard.isNone = true
  hu : P.underlying t = some (.slice e)
  hC : compCode P (.seq (.region r2 os2 false) .ret) = some (.seq (.region [⟨some 2, .move (.c .nsl), none, .write, 0⟩]) .ret)
  hD : compCode P (.seq (.region r3 os3 false) .ret) = some (.seq (.region [⟨some 5, .buildSlice ety sz z 0 [], none, .write, 0⟩, ⟨some 6, .move (.t 0), none, .write, 0⟩, ⟨some 7, .append ety sz bytes (.t 5) (.t 6), none, .write, 0⟩, ⟨some 2, .move (.t 7), none, .write, 0⟩]) .ret)
  nt : fn.ntmps = 8
  rs : fn.results = #[.tmp 2]

theorem clone_ok {P : Program} {f : Nat} {fn : Func} {ety sz bytes : Nat} {z : DV} (hm : P.follows .mixedOrders = true) (hf : P.funcs[f]? = some fn) (hname : (fn.name == "runtime.NumGoroutine") = false) (T : CloneText P fn ety sz bytes z) :
    HookOk P f (cloneHook ety sz bytes) := by
  refine ⟨fun args h d h' c vals hs hR hv => ?_, fun h args v h' hl hs => ?_⟩
  · unfold cloneHook at hs
    split at hs
    · rename_i x
      split at hs
      · rename_i ys hys
        obtain ⟨v, rfl⟩ : ∃ v, vals = [v] := by
          have := hv.1
          cases vals with
          | nil => simp at this
          | cons a r => cases r with
            | nil => exact ⟨a, rfl⟩
            | cons b r => simp at this
        have hvx : VR c x v := hv.2 0 (by simp) (by simp)
        obtain ⟨ad, cap, news, e1, e2, e3, e4, e5⟩ := elems_sound hR hys hvx
        have hcs := (code_sound (noneD_good hm) 3).1
        have hname' : fn.name ≠ "runtime.NumGoroutine" := by simpa using hname
        refine .inr ⟨f, #[v], callFunc_enter hf T.body hname' _ _, ?_⟩
        refine calls_of_wp hf T.body ?_
        have hE0 : EnvR c [x, undefD, undefD, undefD, undefD, undefD, undefD, undefD] { tmps := #[v] ++ Array.replicate (fn.ntmps - 1) Go.undef, defers := [] } := by
          have := frame_env hv 8
          rw [T.nt]
          exact this
        -- what the two ways end in
        have hend : ∀ (env' : Env) (h1 : Heap) (a' : Act) (w' : World), St c h1 env' a' w' → ∀ d1, env'[2]? = some d1 → (∀ ρ' u, Rel h1 (c.next w' ρ' h1) → CtxLe c (c.next w' ρ' h1) → VR (c.next w' ρ' h1) d1 u → Post h c h' w' d u) →
            (a'.defers = [] ∧ ∃ u, (results fn a'.tmps).run P w' = .ok u w' ∧ CallPost h c h' d (.returned u) w') := by
          intro env' h1 a' w' hst d1 hd1 hpost
          obtain ⟨ρ', k1, k2, k3⟩ := hst
          obtain ⟨hlt, hd1'⟩ := List.getElem?_eq_some_iff.1 hd1
          have hvr := k3.val 2 hlt
          rw [hd1'] at hvr
          refine ⟨k3.defers, a'.tmps.getD 2 Go.undef, ?_, _, rfl, hpost ρ' _ k1 k2 hvr⟩
          rw [results_eq, T.rs]
          simp [resSem]
        refine wp_seq ?_
        refine hcs _ _ h c _ _ .normal ([x, undefD, .nsl, undefD, undefD, undefD, undefD, undefD]) h _ T.hA rfl hR hE0 fun a1 w1 hst1 => ?_
        obtain ⟨ρ1, k1, k2, k3⟩ := hst1
        show Code.wp P _ _ a1 w1
        refine wp_seq ?_
        refine wp_seq ?_
        refine wp_region_list ?_
        refine wpList_step fun K hK => ?_
        obtain ⟨c1, c2, c3, _, _⟩ := compOper_inv T.h2
        have ks1 : Rel h (c.next w1 ρ1 h) := k1
        rw [if_pos (by
          have := wanted_sound (ops := [T.o2, T.o3]) (c := c.next w1 ρ1 h) (b := true) c2 k3 rfl
          exact this)]
        refine one_sound (P := P) (call := fun _ _ _ => none) (fun f args h d h' c vals hc => by cases hc) c1 ks1 k3 (r := x) (h' := h) (by rfl) K _ fun u2 w2 hp2 => ?_
        obtain ⟨ρ2, q1, q2, q3⟩ := hp2
        rw [next_next] at q1 q2 q3
        refine hK _ _ ?_
        have c3' : T.o2.dst = some 3 := c3.symm
        have hE2 : EnvR (c.next w2 ρ2 h) [x, undefD, .nsl, x, undefD, undefD, undefD, undefD] (a1.put T.o2.dst u2) := by
          rw [c3']
          exact (k3.mono q2).put q3 (some 3)
        refine wpList_step fun K2 hK2 => ?_
        rw [if_pos (by
          have := T.h3g
          have : T.o3.guard = none := by simpa using this
          simp [Region.wanted, this])]
        have hx3 : (a1.put T.o2.dst u2).eval (.tmp 3) = u2 := by
          have hsz : 3 < a1.tmps.size := by rw [k3.size]; simp
          rw [c3']
          simp [Act.eval, Act.put, hsz]
        obtain ⟨ad2, cap2, news2, f1, f2, f3, f4, f5⟩ := elems_sound q1 hys q3
        have hex : (execOp (a1.put T.o2.dst u2).eval T.o3).run P w2 = .ok (.value (.bool ad2.isNone)) w2 := by
          have hc4 : (a1.put T.o2.dst u2).eval (.const (.slice none 0 0)) = .slice none 0 0 := rfl
          have hg : (eqGuard .eql T.t (.tmp 3) (.const (.slice none 0 0)) (.slice ad2 ys.length cap2) (.slice none 0 0)).run P w2 = .ok () w2 := by
            unfold eqGuard; simp
          have hb : (binOp .eql T.t (.slice ad2 ys.length cap2) (.slice none 0 0)).run P w2 = .ok (.bool ad2.isNone) w2 := by
            simp [binOp, run_eql_nil T.hu]
          simp [execOp, T.h3, hx3.trans f1, hc4, hg, hb]
        have ho3 : OpOk P T.o3 (a1.put T.o2.dst u2) h (c.next w2 ρ2 h) h (.bool ad2.isNone) := by
          intro K Q hK
          unfold Oper.wp
          rw [show (c.next w2 ρ2 h).w = w2 from rfl, hex]
          exact hK _ w2 (Post.pure q1 (.bool _))
        refine ho3 K2 _ fun u3 w3 hp3 => ?_
        obtain ⟨ρ3, p1, p2, p3⟩ := hp3
        rw [next_next] at p1 p2 p3
        refine hK2 _ _ ?_
        have hE3 : EnvR (c.next w3 ρ3 h) [x, undefD, .nsl, x, .bool ad2.isNone, undefD, undefD, undefD] ((a1.put T.o2.dst u2).put T.o3.dst u3) := by
          rw [T.h3d]
          exact (hE2.mono p2).put p3 (some 4)
        have hle3 : CtxLe c (c.next w3 ρ3 h) := (k2.trans q2).trans p2
        have ht4 : ((a1.put T.o2.dst u2).put T.o3.dst u3).eval (.tmp 4) = .bool ad2.isNone := by
          have := hE3.val 4 (by simp)
          have := this.bool_inv
          simpa [Act.eval] using this
        refine wpList_nil ?_
        show Code.wp P _ _ _ w3
        cases had : ad2 with
        | none =>
          rw [had] at ht4
          refine wp_cond_true ht4 ?_
          refine hcs _ _ h (c.next w3 ρ3 h) _ _ .ret ([x, undefD, .nsl, x, .bool ad2.isNone, undefD, undefD, undefD]) h _ T.hC (by rfl) p1 hE3 fun a4 w4 hst4 => ?_
          have hst4' : St c h [x, undefD, .nsl, x, .bool ad2.isNone, undefD, undefD, undefD] a4 w4 := hst4.trans hle3
          have hy : ys = [] := f4 had
          rw [if_pos (by rw [hy]; rfl)] at hs
          cases hs
          refine hend _ h a4 w4 hst4' .nsl rfl fun ρ' u g1 g2 g3 => ?_
          obtain ⟨ρ'', m1, m2⟩ := g1.pushDead
          exact ⟨ρ'', m1, g2.trans m2, g3.mono m2⟩
        | some adr =>
          rw [had] at ht4
          refine wp_cond_false ht4 ?_
          refine wp_skip ?_
          show Code.wp P _ _ _ w3
          have hel := elems_push (o := .arr ety sz [] (some 0)) hys
          by_cases hy : ys.isEmpty = true
          · rw [if_pos hy] at hs
            cases hs
            have hyn : ys = [] := by simpa using hy
            refine hcs _ _ h (c.next w3 ρ3 h) _ _ .ret ([x, undefD, .sl h.n sz 0 0, x, .bool ad2.isNone, .sl h.n sz 0 0, x, .sl h.n sz 0 0]) (h.push (.arr ety sz [] (some 0))) _ T.hD
              (by simp [exec, runOps, wantedD, oneOp, stepOp, Opd.eval, Dm.put, fillElems, hel, appendD, hyn]) p1 hE3 fun a4 w4 hst4 => ?_
            have hst4' := hst4.trans hle3
            refine hend _ _ a4 w4 hst4' (.sl h.n sz 0 0) rfl fun ρ' u g1 g2 g3 => ?_
            obtain ⟨b, base, cap', coff, nn, ety', rfl, hρ, hshape, hmm, hlc, hco⟩ := g3.sl_inv
            have hgn : (h.push (.arr ety sz [] (some 0))).get h.n = some (.arr ety sz [] (some 0)) := get_push_new
            obtain ⟨cur, m, g4, g5, g6, g7, g8, g9⟩ := g1.arr hgn hρ
            rw [shape_of_heap g4] at hshape
            cases hshape
            have hm0 : m = 0 := by have := (g8 0 rfl).1; omega
            have hcap : cap' = 0 := by
              have : cap' * sz = 0 := by rw [hm0] at g6; omega
              rcases Nat.mul_eq_zero.1 this with e | e
              · exact e
              · omega
            subst hcap
            obtain ⟨m1, m2⟩ := g1.kill hgn
            rw [push_dead] at m1 m2
            exact ⟨ρ', m1, g2.trans m2, .nsl _⟩
          · rw [if_neg hy] at hs
            split at hs
            · rename_i hb
              cases hs
              have hyp : ¬ ys.length = 0 := fun e => hy (by simpa using List.eq_nil_of_length_eq_zero e)
              have hyf : ys.isEmpty = false := by simpa using hy
              have hgn : (h.push (.arr ety sz [] (some 0))).get h.n = some (.arr ety sz [] (some 0)) := get_push_new
              refine hcs _ _ h (c.next w3 ρ3 h) _ _ .ret ([x, undefD, .sl (h.n + 1) sz 0 ys.length, x, .bool ad2.isNone, .sl h.n sz 0 0, x, .sl (h.n + 1) sz 0 ys.length]) ((h.push (.arr ety sz [] (some 0))).push (.arr ety sz ys none)) _ T.hD
                (by
                  have hap : appendD (h.push (.arr ety sz [] (some 0))) ety sz bytes (.sl h.n sz 0 0) ys = some (.sl (h.n + 1) sz 0 ys.length, (h.push (.arr ety sz [] (some 0))).push (.arr ety sz ys none)) := by
                    simp only [appendD, hyf, Bool.false_eq_true, if_false, hgn]
                    rw [if_pos (by simpa using hb), if_neg (show ¬ 0 + (0 + ys.length) ≤ ([] : List DV).length from fun hle => hyp (by have : ([] : List DV).length = 0 := rfl; omega))]
                    simp [n_push]
                  simp [exec, runOps, wantedD, oneOp, stepOp, Opd.eval, Dm.put, fillElems, hel, hap]) p1 hE3 fun a4 w4 hst4 => ?_
              have hst4' := hst4.trans hle3
              refine hend _ _ a4 w4 hst4' (.sl (h.n + 1) sz 0 ys.length) rfl fun ρ' u g1 g2 g3 => ?_
              exact ⟨ρ', g1, g2, g3⟩
            · cases hs
      · cases hs
    · cases hs
  · unfold cloneHook at hs
    split at hs
    · split at hs
      · split at hs
        · cases hs; exact .push hl _
        · split at hs
          · cases hs; exact (Keeps.push hl _).trans (.push (Nat.le_succ_of_le hl) _)
          · cases hs
      · cases hs
    · cases hs

end Go.Dm
