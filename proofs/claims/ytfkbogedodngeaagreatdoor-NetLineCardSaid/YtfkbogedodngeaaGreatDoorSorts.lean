/-
The hooks of the sorting are right at this program. Written by program (wip/tools/mksorts.sh).
-/
import Derived.Test.YtfkbogedodngeaaGreatDoorSortsL
import Derived.Test.YtfkbogedodngeaaGreatDoorDm44
import Derived.KernelRfl
import Derived.Test.YtfkbogedodngeaaGreatDoorWS
namespace Go.Dm.Sorts
open Go.Proofs Go.Shelf

theorem s142_ok : mY Tryz.prog 142 rX := So (sortsI (ρ := Tryz.lays189_ren) Tryz.lays189 (enters_of Tryz.func142 (by kernel_rfl) rfl))

theorem cmp_eq(x y : Int × Int) : Tw.orI (Tw.cmpI x.1 y.1) (Tw.cmpI x.2 y.2) = cmpP x y := by
  unfold Tw.orI Tw.cmpI cmpP
  by_cases h1 : x.1 < y.1
  · simp[h1]
  · by_cases h2 : y.1 < x.1 <;> simp[h1, h2]

theorem s102_ok : mY Tryz.prog 102 (pD 103) :=
  Oe (sortsP (ρ := Tryz.sortP_ren) Tryz.sortP (enters_of Tryz.func102 (by kernel_rfl) rfl) (Tryz.isAgg86) (Tryz.sizeOf86) (enters_of Tryz.func103 (by kernel_rfl) rfl)
    fun x y W hW => grown_call Tw.good (fn := Tryz.f103) Tryz.func103 rfl (by decide) (h' := jA) (by rw[← cmp_eq]; exact Tw.q103 x.1 x.2 y.1 y.2) W hW (vrs_pairs _ x y))

end Go.Dm.Sorts
