/-
Part 19 of "Dm": calls; one operation, a call or none; results.
-/
import Derived.Test.YtkhmbjajaibinaaGreatDoorDm18
namespace Go.Dm

/-! ## what a call is -/

def CallPost (h : Heap) (c : Ctx) (h' : Heap) (d : DV) : Ending → World → Prop := fun e w' => ∃ v, e = .returned v ∧ Post h c h' w' d v

/-- A call of a function does what the machine says. -/
def CallOk (P : Program) (f : FuncId) (vals : Array Value) (h : Heap) (c : Ctx) (h' : Heap) (d : DV) : Prop :=
  (∃ v w', (callFunc f vals).run P c.w = .ok (.value v) w' ∧ Post h c h' w' d v) ∨
  (∃ f' vals' , (callFunc f vals).run P c.w = .ok (.enter f' vals') c.w ∧ Calls P f' vals' c.w (CallPost h c h' d))

def CallSound (P : Program) (call : CallF) : Prop := ∀ f args h d h' c vals, call f args h = some (d, h') → Rel h c → VRs c args vals → CallOk P f vals.toArray h c h' d

/-- One operation does what the machine says, whatever comes behind it. -/
def OpOk (P : Program) (o : Oper) (a : Act) (h : Heap) (c : Ctx) (h' : Heap) (d : DV) : Prop :=
  ∀ K Q, (∀ v w', Post h c h' w' d v → K (a.put o.dst v) w') → o.wp P a c.w K Q

theorem Steps1.opOk {P : Program} {o : Oper} {a : Act} {h h' : Heap} {c : Ctx} {d : DV} (hs : Steps1 P h c o a h' d) : OpOk P o a h c h' d := by
  obtain ⟨nx, v, w', hr, hn, hp⟩ := hs
  intro K Q hK
  unfold Oper.wp
  rw [hr]
  rcases hn with rfl | ⟨rfl, rfl⟩
  · exact hK v w' hp
  · exact hK _ w' hp

theorem CallOk.opOk {P : Program} {o : Oper} {a : Act} {h h' : Heap} {c : Ctx} {d : DV} {f : FuncId} {vals : Array Value} (hc : CallOk P f vals h c h' d)
    (he : (execOp a.eval o).run P c.w = (callFunc f vals).run P c.w) : OpOk P o a h c h' d := by
  intro K Q hK
  unfold Oper.wp
  rw [he]
  rcases hc with ⟨v, w', hr, hp⟩ | ⟨f', vals', hr, hcalls⟩
  · rw [hr]; exact hK v w' hp
  · rw [hr]
    exact Calls.mono hcalls fun e w' hp => by
      obtain ⟨v, rfl, hp⟩ := hp
      exact hK v w' hp

section
variable {P : Program} {h h' : Heap} {c : Ctx} {env : Env} {a : Act} {o : Oper} {r : DV}

theorem opds_VRs' {as : List Operand} {ds : List Opd} (hm : as.mapM opd = some ds) (hE : EnvR c env a) : VRs c (ds.map (Opd.eval env)) (as.map a.eval) := by
  have hl := mapM_length _ _ _ hm
  refine ⟨by simp [hl], fun i h1 h2 => ?_⟩
  simp only [List.length_map] at h1 h2
  simp only [List.getElem_map]
  exact opd_VR (mapM_get _ _ _ hm i h2 h1) hE

theorem VRs.app {ds es : List DV} {vs us : List Value} (h1 : VRs c ds vs) (h2 : VRs c es us) : VRs c (ds ++ es) (vs ++ us) := by
  refine ⟨by simp [h1.1, h2.1], fun i a1 a2 => ?_⟩
  by_cases hi : i < ds.length
  · have hi' : i < vs.length := by rw [← h1.1]; exact hi
    rw [List.getElem_append_left hi, List.getElem_append_left hi']
    exact h1.2 i hi hi'
  · have hi' : ¬ i < vs.length := by rw [← h1.1]; exact hi
    rw [List.getElem_append_right (Nat.le_of_not_lt hi), List.getElem_append_right (Nat.le_of_not_lt hi')]
    have : i - ds.length = i - vs.length := by rw [h1.1]
    have b1 : i - ds.length < es.length := by simp only [List.length_append] at a1; omega
    have b2 : i - vs.length < us.length := by simp only [List.length_append] at a2; omega
    have := h2.2 (i - ds.length) b1 (by rw [h1.1]; exact b2)
    simpa only [h1.1] using this

/-- A call's operation comes down to its function's call. -/
theorem exec_call {f : Operand} {args : Array Operand} {ats : Array TypeId} {g : FuncId} {cap : List Value} (ho : o.op = .call { callee := .value f, args := args, argTypes := ats })
    (hf : a.eval f = .func (.func g) #[] cap.toArray) :
    (execOp a.eval o).run P c.w = (callFunc g (args.toList.map a.eval ++ cap).toArray).run P c.w := by
  have e : (args.toList.map a.eval ++ cap).toArray = args.map a.eval ++ cap.toArray := by apply Array.ext'; simp
  rw [e]
  simp [execOp, ho, Go.resolve, Deferred.ofValue, hf, invoke]

theorem compOp_call {f' : Opd} {as' : List Opd} (hc : compOp P o = some (.call f' as')) :
    ∃ f args ats, o.op = .call { callee := .value f, args := args, argTypes := ats } ∧ opd f = some f' ∧ args.toList.mapM opd = some as' := by
  unfold compOp at hc
  split at hc
  case h_29 f args ats ho =>
    split at hc
    · rename_i g as h1 h2; cases hc; exact ⟨f, args, ats, ho, h1, h2⟩
    · cases hc
  all_goals ((repeat' split at hc) <;> first | (cases hc; done) | (simp at hc; done))

theorem one_sound {call : CallF} (hcall : CallSound P call) {d : DOp} (hc : compOp P o = some d) (hR : Rel h c) (hE : EnvR c env a) (hs : oneOp call d env h = some (r, h')) : OpOk P o a h c h' r := by
  by_cases hn : ∀ f as, d ≠ .call f as
  · have hs' : stepOp h env d = some (r, h') := by
      unfold oneOp at hs
      split at hs
      · exact absurd rfl (hn _ _)
      · exact hs
    exact (step_sound hc hn hR hE hs').opOk
  · have : ∃ f as, d = .call f as := by
      cases d <;> first | exact ⟨_, _, rfl⟩ | exact absurd (fun _ _ => by simp) hn
    obtain ⟨f', as', rfl⟩ := this
    obtain ⟨f, args, ats, ho, hf, has⟩ := compOp_call hc
    simp only [oneOp] at hs
    split at hs
    · rename_i g cap hg
      have vf := opd_VR hf hE
      rw [hg] at vf
      obtain ⟨vs, e1, e2, e3⟩ := vf.func_inv
      exact (hcall g _ h r h' c _ hs hR ((opds_VRs' has hE).app ⟨e2, e3⟩)).opOk (exec_call ho e1)
    · cases hs

end
end Go.Dm
