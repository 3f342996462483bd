/- A part of the proof. -/
import Derived.Test.YtfkbogedodngeaaGreatDoorTw0
namespace Go.Dm.Tw
open Go.Proofs

def tab : List (Nat × aL) := [(103, Fw), (104, Ca), (105, uR), (193, Bz)]

set_option maxRecDepth 100000 in
theorem Xx : Ej Tryz.prog tab :=
  .cons (by kernel_rfl) XN<|
  .cons (by kernel_rfl) XM<|
  .cons (by kernel_rfl) XL<|
  .cons (by kernel_rfl) XK<|
  .nil

def hooks : List (Nat × qJ) := []

theorem Hj : rB Tryz.prog hooks :=
  .nil

def D : bU := Px tab hooks

theorem good : La Tryz.prog D := At (by kernel_rfl) Xx Hj

end Go.Dm.Tw
