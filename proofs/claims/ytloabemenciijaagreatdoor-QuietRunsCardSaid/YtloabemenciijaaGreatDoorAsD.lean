/-
What stands in the place of errors.As: its contracts, put together.
-/
import Derived.Test.YtloabemenciijaaGreatDoorAsC
namespace Go.Proofs.YtloabemenciijaaGreatDoor.Err
open Go.RowKit

theorem asText : Go.Dm.AsText Tryz.prog 75 Tryz.f75 57 157 154 160 where
  hf := by kernel_rfl
  hb := rfl
  hn := by kernel_rfl
  nil := as_nil
  num := fun v r n p old w hg hch hp hf => asE_any v r n p old w (hg 0 _ rfl).2 hch hp hf
  hit := fun q p old w hg hp hf => asF_hit q p old w (hg 0 _ rfl).2 hp hf
  miss := fun n p w hg => (asF_miss n p w (hg 0 _ rfl).2).mono fun e w' h => by
    obtain ⟨e1, w1, k1, rfl⟩ := h
    exact ⟨e1, k1⟩

/-- errors.As in the machine. -/
def asHook : Go.Dm.Hook := Go.Dm.asHook 57 157 154 160
theorem asHookOk : Go.Dm.HookOk Tryz.prog 75 asHook := Go.Dm.as_ok asText

end Go.Proofs.YtloabemenciijaaGreatDoor.Err
