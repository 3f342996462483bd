/- A part of the proof. -/
import Derived.Test.YtfkbogedodngeaaGreatDoorTw0
namespace Go.Dm.Tw
open Go.Proofs

def tab : List (Nat × aK) := [(103, Fk), (104, Bg), (105, uJ), (193, Bf)]

set_option maxRecDepth 100000 in
theorem Xt : Dz Tryz.prog tab :=
  .cons (by kernel_rfl) WY<|
  .cons (by kernel_rfl) WX<|
  .cons (by kernel_rfl) WW<|
  .cons (by kernel_rfl) WV<|
  .nil

def hooks : List (Nat × qA) := []

theorem Hb : qT Tryz.prog hooks :=
  .nil

def D : bX := Pr tab hooks

theorem good : Ks Tryz.prog D := Ad (by kernel_rfl) Xt Hb

end Go.Dm.Tw
