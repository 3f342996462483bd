/-
The hooks of the sorting are right at this program. Written by program (wip/tools/mksorts.sh).
-/
import Derived.Test.YtloabemenciijaaGreatDoorSortsL
import Derived.Test.YtloabemenciijaaGreatDoorDm44
import Derived.KernelRfl
import Derived.Test.YtloabemenciijaaGreatDoorWS
namespace Go.Dm.Sorts
open Go.Proofs Go.Shelf

theorem s178_ok : jH Tryz.prog 178 mP := Jn (sortsI (ρ := Tryz.lays189_ren) Tryz.lays189 (enters_of Tryz.func178 (by kernel_rfl) rfl))

theorem cmp_eq(x y : Int × Int) : Tw.orI (Tw.cmpI x.1 y.1) (Tw.cmpI x.2 y.2) = cmpP x y := by
  unfold Tw.orI Tw.cmpI cmpP
  by_cases h1 : x.1 < y.1
  · simp[h1]
  · by_cases h2 : y.1 < x.1 <;> simp[h1, h2]

theorem s130_ok : jH Tryz.prog 130 (kQ 131) :=
  Fj (sortsP (ρ := Tryz.sortP_ren) Tryz.sortP (enters_of Tryz.func130 (by kernel_rfl) rfl) (Tryz.isAgg90) (Tryz.sizeOf90) (enters_of Tryz.func131 (by kernel_rfl) rfl)
    fun x y W hW => grown_call Tw.good (fn := Tryz.f131) Tryz.func131 rfl (by decide) (h' := fM) (by rw[← cmp_eq]; exact Tw.q131 x.1 x.2 y.1 y.2) W hW (vrs_pairs _ x y))

end Go.Dm.Sorts
