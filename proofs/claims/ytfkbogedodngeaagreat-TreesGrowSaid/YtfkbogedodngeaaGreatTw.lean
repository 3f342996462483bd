/- A part of the proof. -/
import Derived.Test.YtfkbogedodngeaaGreatTw0
namespace Go.Dm.Tw
open Go.Proofs

def tab : List (Nat × aK) := [(109, Ag), (110, tG), (133, Dz), (142, Af)]

set_option maxRecDepth 100000 in
theorem Wd : Ct Tryz.prog tab :=
  .cons (by kernel_rfl) TO<|
  .cons (by kernel_rfl) TN<|
  .cons (by kernel_rfl) TM<|
  .cons (by kernel_rfl) TL<|
  .nil

def hooks : List (Nat × qM) := []

theorem Fu : qC Tryz.prog hooks :=
  .nil

def D : bX := Nv tab hooks

theorem good : Jc Tryz.prog D := zD (by kernel_rfl) Wd Fu

end Go.Dm.Tw
