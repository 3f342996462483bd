/- A part of the proof. -/
import Derived.Test.YtloabemenciijaaGreatDoorTw0
namespace Go.Dm.Tw
open Go.Proofs

def tab : List (Nat × aD) := [(106, vM), (131, yT), (132, pF), (220, vL)]

set_option maxRecDepth 100000 in
theorem Ou : xN Tryz.prog tab :=
  .cons (by kernel_rfl) KM<|
  .cons (by kernel_rfl) KL<|
  .cons (by kernel_rfl) KK<|
  .cons (by kernel_rfl) KJ<|
  .nil

def hooks : List (Nat × lP) := []

theorem Ak : mD Tryz.prog hooks :=
  .nil

def D : bA := Gu tab hooks

theorem good : Df Tryz.prog D := uP (by kernel_rfl) Ou Ak

end Go.Dm.Tw
