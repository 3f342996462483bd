/-
The hooks of the sorting are right at this program. Written by program (wip/tools/mksorts.sh).
-/
import Derived.Test.YtfkbogedodngeaaGreatSortsL
import Derived.Test.YtfkbogedodngeaaGreatDm44
import Derived.KernelRfl
import Derived.Test.YtfkbogedodngeaaGreatWS
namespace Go.Dm.Sorts
open Go.Proofs Go.Shelf

theorem s37_ok : qA Tryz.prog 37 rU := Qz (sortsI (ρ := Tryz.lays189_ren) Tryz.lays189 (enters_of Tryz.func37 (by kernel_rfl) rfl))

theorem cmp_eq(x y : Int × Int) : Tw.orI (Tw.cmpI x.1 y.1) (Tw.cmpI x.2 y.2) = cmpP x y := by
  unfold Tw.orI Tw.cmpI cmpP
  by_cases h1 : x.1 < y.1
  · simp[h1]
  · by_cases h2 : y.1 < x.1 <;> simp[h1, h2]

theorem s132_ok : qA Tryz.prog 132 (wE 133) :=
  Mq (sortsP (ρ := Tryz.sortP_ren) Tryz.sortP (enters_of Tryz.func132 (by kernel_rfl) rfl) (Tryz.isAgg76) (Tryz.sizeOf76) (enters_of Tryz.func133 (by kernel_rfl) rfl)
    fun x y W hW => grown_call Tw.good (fn := Tryz.f133) Tryz.func133 rfl (by decide) (h' := lD) (by rw[← cmp_eq]; exact Tw.q133 x.1 x.2 y.1 y.2) W hW (vrs_pairs _ x y))

end Go.Dm.Sorts
