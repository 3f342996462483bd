/- A part of the proof. -/
import Derived.Test.YtfkbogedodngeaaGreatDoorTw0
namespace Go.Dm.Tw
open Go.Proofs

def tab : List (Nat × aS) := [(103, Hh), (104, Cv), (105, wA), (193, Ct)]

set_option maxRecDepth 100000 in
theorem A9 : Fc Tryz.prog tab :=
  .cons (by kernel_rfl) YD<|
  .cons (by kernel_rfl) YC<|
  .cons (by kernel_rfl) YB<|
  .cons (by kernel_rfl) YA<|
  .nil

def hooks : List (Nat × rT) := []

theorem Jd : sK Tryz.prog hooks :=
  .nil

def D : cL := Rv tab hooks

theorem good : Mm Tryz.prog D := Bo (by kernel_rfl) A9 Jd

end Go.Dm.Tw
