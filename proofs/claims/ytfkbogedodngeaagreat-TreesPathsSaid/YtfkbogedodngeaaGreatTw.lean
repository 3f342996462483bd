/- A part of the proof. -/
import Derived.Test.YtfkbogedodngeaaGreatTw0
namespace Go.Dm.Tw
open Go.Proofs

def tab : List (Nat × aK) := [(109, Ae), (110, tA), (133, Dt), (142, Ad)]

set_option maxRecDepth 100000 in
theorem Wa : Co Tryz.prog tab :=
  .cons (by kernel_rfl) TF<|
  .cons (by kernel_rfl) TE<|
  .cons (by kernel_rfl) TD<|
  .cons (by kernel_rfl) TC<|
  .nil

def hooks : List (Nat × qK) := []

theorem Fn : qA Tryz.prog hooks :=
  .nil

def D : bX := Nx tab hooks

theorem good : Je Tryz.prog D := zC (by kernel_rfl) Wa Fn

end Go.Dm.Tw
