/-
Part 18 of "Dm": runs leave alone what lies below the limit.
-/
import Derived.Test.YtkhmbjajaibinaaGreatDoorDm17
namespace Go.Dm

abbrev CallF := Nat → List DV → Heap → Option (DV × Heap)

def CallKeeps (call : CallF) : Prop := ∀ f args h v h', h.lim ≤ h.n → call f args h = some (v, h') → Keeps h h'

theorem Keeps.lim_le {h h' : Heap} (k : Keeps h h') (hl : h.lim ≤ h.n) : h'.lim ≤ h'.n := by rw [k.lim]; exact Nat.le_trans hl k.n

theorem oneOp_keeps {call : CallF} (hc : CallKeeps call) {d : DOp} {env : Env} {h h' : Heap} {v : DV} (hl : h.lim ≤ h.n) (hs : oneOp call d env h = some (v, h')) : Keeps h h' := by
  unfold oneOp at hs
  split at hs
  · split at hs
    · exact hc _ _ _ _ _ hl hs
    · cases hs
  · exact stepOp_keeps hl hs

theorem runOps_keeps {call : CallF} (hc : CallKeeps call) : ∀ (ops : List DOper) (env env' : Env) (h h' : Heap), h.lim ≤ h.n → runOps call ops env h = some (env', h') → Keeps h h' := by
  intro ops
  induction ops with
  | nil => intro env env' h h' _ hs; cases hs; exact .refl _
  | cons o r ih =>
    intro env env' h h' hl hs
    simp only [runOps] at hs
    split at hs
    · split at hs
      · rename_i v h1 h2
        have k := oneOp_keeps hc hl h2
        exact k.trans (ih _ _ _ _ (k.lim_le hl) hs)
      · cases hs
    · exact ih _ _ _ _ hl hs
    · cases hs

theorem heapOp_keeps {call : CallF} (hc : CallKeeps call) {l : Nat} {d : DOp} {env : Env} {h h' : Heap} {v : DV} (hl : h.lim ≤ h.n) (hln : l ≤ h.n) (hs : heapOp call l d env h = some (v, h')) :
    Keeps h h' ∧ ∀ id, id < l → h'.get id = h.get id := by
  unfold heapOp at hs
  split at hs
  · rename_i v1 h1 h2
    cases hs
    have k := oneOp_keeps hc (h := { h with lim := max l h.lim }) (Nat.max_le.2 ⟨hln, hl⟩) h2
    exact ⟨⟨rfl, k.n, fun id hi => k.get id (Nat.lt_of_lt_of_le hi (Nat.le_max_right _ _))⟩, fun id hi => k.get id (Nat.lt_of_lt_of_le hi (Nat.le_max_left _ _))⟩
  · cases hs

theorem createOp_keeps {call : CallF} (hc : CallKeeps call) {l r : Nat} {L L' : DLog} {d : DOp} {env : Env} {h h' : Heap} {v : DV} (hl : h.lim ≤ h.n) (hln : l ≤ h.n) (hs : createOp call l r L d env h = some (v, h', L')) : Keeps h h' := by
  unfold createOp at hs
  split at hs
  · split at hs
    · rename_i h2; cases hs; exact stepOp_keeps hl h2
    · cases hs
  · split at hs
    · rename_i h2; cases hs; exact (heapOp_keeps hc hl hln h2).1
    · unfold pokeCall at hs
      split at hs
      · split at hs
        · rename_i h2
          split at hs
          · cases hs; exact oneOp_keeps hc hl h2
          · cases hs
        · cases hs
      · cases hs

theorem snapAt_mem {hs : List Heap} {k : Nat} {h : Heap} (he : snapAt hs k = some h) : h ∈ hs := by
  unfold snapAt at he
  split at he
  · exact List.mem_of_getElem? he
  · cases he

/-- The heaps of a region, the newest first: each keeps what those behind it hold. -/
def Stack : List Heap → Prop
  | [] => True
  | h :: hs => h.lim ≤ h.n ∧ (∀ g, g ∈ hs → Keeps g h) ∧ Stack hs

theorem runDraw_keeps {call : CallF} (hc : CallKeeps call) : ∀ (ops : List DOper) (env env' : Env) (hs : List Heap) (L : DLog) (h' : Heap), Stack hs → runDraw call ops env hs L = some (env', h') → ∀ g, g ∈ hs → Keeps g h' := by
  intro ops
  induction ops with
  | nil =>
    intro env env' hs L h' hst he g hg
    cases hs with
    | nil => cases he
    | cons h hs =>
      cases he
      rcases List.mem_cons.1 hg with rfl | hg
      · exact .refl _
      · exact hst.2.1 g hg
  | cons o r ih =>
    intro env env' hs L h' hst he g hg
    cases hs with
    | nil => cases he
    | cons h hs =>
      have next : ∀ h1, Keeps h h1 → Stack (h1 :: h :: hs) := fun h1 k => ⟨k.lim_le hst.1, fun g hg => by
        rcases List.mem_cons.1 hg with rfl | hg
        · exact k
        · exact (hst.2.1 g hg).trans k, hst⟩
      have below : ∀ g, g ∈ h :: hs → g.n ≤ h.n := fun g hg => by
        rcases List.mem_cons.1 hg with rfl | hg
        · exact Nat.le_refl _
        · exact (hst.2.1 g hg).n
      simp only [runDraw] at he
      split at he
      · cases he
      · split at he
        · split at he
          · split at he
            · split at he
              · exact ih _ _ _ _ _ hst he g hg
              · cases he
            · cases he
          · cases he
        · split at he
          · rename_i v h1 h2
            exact ih _ _ _ _ _ (next h1 (oneOp_keeps hc hst.1 h2)) he g (List.mem_cons_of_mem _ hg)
          · cases he
        · split at he
          · rename_i h0 hs0
            split at he
            · rename_i v h1 L1 h2
              exact ih _ _ _ _ _ (next h1 (createOp_keeps hc hst.1 (below h0 (snapAt_mem hs0)) h2)) he g (List.mem_cons_of_mem _ hg)
            · cases he
          · cases he
      · split at he
        · exact ih _ _ _ _ _ hst he g hg
        · exact ih _ _ _ _ _ (next h (.refl _)) he g (List.mem_cons_of_mem _ hg)

def RunKeeps (run : DCode → Env → Heap → Res) : Prop := ∀ c env h e env' h', h.lim ≤ h.n → run c env h = .ok e env' h' → Keeps h h'

def HooksKeep (D : DProg) : Prop := ∀ f hk, D.hook f = some hk → ∀ h args v h', h.lim ≤ h.n → hk h args = some (v, h') → Keeps h h'

theorem enter_keeps {run : DCode → Env → Heap → Res} {D : DProg} (hh : HooksKeep D) (hr : RunKeeps run) : CallKeeps (enter run D) := by
  intro f args h v h' hl he
  unfold enter at he
  split at he
  · rename_i hk hk'; exact hh _ _ hk' _ _ _ _ hl he
  · split at he
    · cases he
    · rename_i df hdf
      have go : ∀ args (h h' : Heap) v, h.lim ≤ h.n → (match run df.body (args ++ List.replicate (df.ntmps - args.length) undefD) h with
          | .ok (.exit _) _ _ => none
          | .ok _ env h' => match resultsOf h' env df.results with
            | some v => some (v, h')
            | none => none
          | .fail => none) = some (v, h') → Keeps h h' := by
        intro args h h' v hl he
        split at he
        · cases he
        · rename_i h2
          split at he
          · cases he; exact hr _ _ _ _ _ _ hl h2
          · cases he
        · cases he
      simp only at he
      split at he
      · exact go _ _ _ _ hl he
      · split at he
        · rename_i v1 h1 h2
          cases he
          have k := go _ { h with lim := h.n } _ _ (Nat.le_refl _) h2
          exact ⟨rfl, k.n, fun id hi => k.get id (Nat.lt_of_lt_of_le hi hl)⟩
        · cases he
      · split at he
        · split at he
          · split at he
            · split at he
              · cases he; exact .refl _
              · cases he
            · cases he
          · cases he
        · cases he
      · split at he
        · split at he
          · rename_i hgid
            split at he
            · rename_i hcond
              split at he
              · split at he
                · cases he
                  exact (Keeps.set hgid hcond.2 _).trans (.push (by exact hl) _)
                · cases he
              · cases he
            · cases he
          · exact go _ _ _ _ hl he
        · exact go _ _ _ _ hl he

theorem exec_keeps {D : DProg} (hh : HooksKeep D) : ∀ n, RunKeeps (exec D n) := by
  intro n
  induction n with
  | zero => intro c env h e env' h' _ he; cases he
  | succ n ih =>
    intro c env h e env' h' hl he
    cases c <;> simp only [exec] at he
    case skip => cases he; exact .refl _
    case exit => cases he; exact .refl _
    case ret => cases he; exact .refl _
    case seq a b =>
      split at he
      · rename_i e1 h1 h2
        have k := ih _ _ _ _ _ _ hl h2
        exact k.trans (ih _ _ _ _ _ _ (k.lim_le hl) he)
      · exact ih _ _ _ _ _ _ hl he
    case cond c a b =>
      split at he
      · exact ih _ _ _ _ _ _ hl he
      · exact ih _ _ _ _ _ _ hl he
      · cases he
    case block id b =>
      split at he
      · rename_i h2
        split at he
        · cases he; exact ih _ _ _ _ _ _ hl h2
        · cases he; exact ih _ _ _ _ _ _ hl h2
      · exact ih _ _ _ _ _ _ hl he
    case loop b =>
      split at he
      · rename_i e1 h1 h2
        have k := ih _ _ _ _ _ _ hl h2
        exact k.trans (ih _ _ _ _ _ _ (k.lim_le hl) he)
      · exact ih _ _ _ _ _ _ hl he
    case region ops =>
      split at he
      · rename_i h2; cases he; exact runOps_keeps (enter_keeps hh ih) _ _ _ _ _ hl h2
      · cases he
    case draw ops =>
      split at he
      · rename_i h2; cases he; exact runDraw_keeps (enter_keeps hh ih) _ _ _ [h] _ _ (show Stack [h] from ⟨hl, (fun _ hg => (by cases hg)), trivial⟩) h2 _ (List.mem_singleton.2 rfl)
      · cases he

end Go.Dm
