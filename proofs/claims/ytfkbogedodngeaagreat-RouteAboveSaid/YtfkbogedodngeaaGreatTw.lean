/- A part of the proof. -/
import Derived.Test.YtfkbogedodngeaaGreatTw0
namespace Go.Dm.Tw
open Go.Proofs

def tab : List (Nat × aV) := [(109, Aw), (110, uO), (133, Wi), (142, Av)]

set_option maxRecDepth 100000 in
theorem Wb : Cz Tryz.prog tab :=
  .cons (by kernel_rfl) PS<|
  .cons (by kernel_rfl) PR<|
  .cons (by kernel_rfl) VK<|
  .cons (by kernel_rfl) PQ<|
  .nil

def hooks : List (Nat × rS) := []

theorem Gp : qZ Tryz.prog hooks :=
  .nil

def D : bV := Nz tab hooks

theorem good : Kc Tryz.prog D := zS (by kernel_rfl) Wb Gp

end Go.Dm.Tw
