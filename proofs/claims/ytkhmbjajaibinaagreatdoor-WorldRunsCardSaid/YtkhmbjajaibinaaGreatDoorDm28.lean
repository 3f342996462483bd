/-
Part 28 of "Dm": a call of a function without arguments from outside; the table of the functions.
-/
import Derived.Test.YtkhmbjajaibinaaGreatDoorDm27
import Derived.RowKit3
namespace Go.Dm
open Go.RowKit

def emptyH : Heap := { objs := [], n := 0, lim := 0 }

/-- A world of which nothing is ours. -/
def ctx0 (w : World) (τ : Nat → Value := fun _ => undef) : Ctx := ⟨w, fun _ => none, fun _ => False, fun _ => False, fun _ => False, τ⟩

theorem get_empty (id : Nat) : emptyH.get id = none := by simp [Heap.get, emptyH]

/-- A world in which the listed variable holds what it is said to hold. -/
def Laid (w : World) : Prop := ∀ b v, globVal = some (b, v) → b < w.heap.size ∧ w.cell? ⟨b, 0, none⟩ = some v

theorem rel0 (w : World) (hg : Laid w) (τ : Nat → Value := fun _ => undef) : Rel emptyH (ctx0 w τ) :=
  ⟨rfl, Nat.le_refl _, fun id h => absurd rfl h, fun id o h => (by rw [get_empty] at h; cases h), fun i j oi oj b x y hi => (by rw [get_empty] at hi; cases hi), fun b => ⟨fun h => h.elim, fun h => by
    rcases h with ⟨id, o, x, hg, _⟩ | h
    · rw [get_empty] at hg; cases hg
    · exact h.elim⟩, fun b h => h.elim, fun b h => h.elim, fun b h => h.elim, fun b v hv => ⟨(hg b v hv).1, fun h => h, (hg b v hv).2⟩⟩

theorem grown_of_le {w : World} {τ : Nat → Value} {c : Ctx} (h : CtxLe (ctx0 w τ) c) : Grown w c.w := by
  refine ⟨⟨h.quiet.os, h.quiet.out, fun i hi => ?_⟩, h.quiet.froz, h.size⟩
  have := (World.keptBut_refl w (fun _ => False)).2.2 i hi
  rw [h.frame i hi (fun h => h)]
  exact this

/-- What a table of functions says. -/
def TabOk (P : Program) (tab : List (Nat × DFunc)) : Prop := ∀ x, x ∈ tab → ∃ fn, P.funcs[x.1]? = some fn ∧ compFunc P fn x.2.mode = some x.2

theorem TabOk.nil {P : Program} : TabOk P [] := fun x hx => by cases hx
theorem TabOk.cons {P : Program} {f : Nat} {df : DFunc} {fn : Func} {tab : List (Nat × DFunc)} (h1 : P.funcs[f]? = some fn) (h2 : compFunc P fn df.mode = some df) (h : TabOk P tab) : TabOk P ((f, df) :: tab) := fun x hx => by
  rcases List.mem_cons.1 hx with rfl | hx
  · exact ⟨fn, h1, h2⟩
  · exact h x hx

def lookT : List (Nat × DFunc) → Nat → Option DFunc
  | [], _ => none
  | (k, d) :: r, f => if Nat.beq k f then some d else lookT r f

theorem lookT_mem {tab : List (Nat × DFunc)} {f : Nat} {d : DFunc} (h : lookT tab f = some d) : (f, d) ∈ tab := by
  induction tab with
  | nil => cases h
  | cons x r ih =>
    obtain ⟨k, d'⟩ := x
    simp only [lookT] at h
    split at h
    · rename_i he
      cases h
      rw [Nat.eq_of_beq_eq_true he]
      exact List.mem_cons_self ..
    · exact List.mem_cons_of_mem _ (ih h)

/-- The functions of a table; in no body's place stands anything else. -/
def plainD (tab : List (Nat × DFunc)) : DProg := { fn := lookT tab, hook := fun _ => none }

theorem plainD_good {P : Program} {tab : List (Nat × DFunc)} (hm : P.follows .mixedOrders = true) (ht : TabOk P tab) : Good P (plainD tab) where
  mixed := hm
  comp := fun f df h => ht (f, df) (lookT_mem h)
  hooks := fun f hk h => by cases h
  keep := fun f hk h => by cases h

def isTrue (r : Option (DV × Heap)) : Bool :=
  match r with
  | some (.bool true, _) => true
  | _ => false

/-- A function without arguments that answers true. -/
theorem closed_true {P : Program} {D : DProg} (G : Good P D) {f n : Nat} {fn : Func} {body : Code} (hf : P.funcs[f]? = some fn) (hb : fn.body = some body) (hn : fn.name ≠ "runtime.NumGoroutine") (hr : isTrue (callD D n f [] emptyH) = true) (w : World) (hg : Laid w) :
    Calls P f #[] w fun e w' => e = .returned (.bool true) ∧ Grown w w' := by
  unfold isTrue at hr
  split at hr
  · rename_i h' he
    have hc := call_sound G n f [] emptyH _ h' (ctx0 w) [] he (rel0 w hg) ⟨rfl, fun i h1 => absurd h1 (Nat.not_lt_zero _)⟩
    have hen := callFunc_enter hf hb hn #[] w
    rcases hc with ⟨v, w', hrun, _⟩ | ⟨f', vals', hrun, hcalls⟩
    · have : (callFunc f #[]).run P w = .ok (.value v) w' := hrun
      rw [hen] at this
      cases this
    · have h2 : (callFunc f #[]).run P w = .ok (.enter f' vals') w := hrun
      rw [hen] at h2
      cases h2
      refine hcalls.mono fun e w' hp => ?_
      obtain ⟨v, e1, ρ', k1, k2, k3⟩ := hp
      exact ⟨by rw [e1, k3.bool_inv], grown_of_le k2⟩
  · cases hr

end Go.Dm
