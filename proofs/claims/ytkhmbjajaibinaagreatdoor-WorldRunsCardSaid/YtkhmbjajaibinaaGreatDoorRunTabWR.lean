/-
The run of WorldRuns in the machine.
-/
import Derived.Test.YtkhmbjajaibinaaGreatDoorTabW
import Derived.KernelRfl
namespace Go.Dm.TabWR
open Go.Proofs

theorem runs : isTrue (callD TabW.D 5000 3 [] emptyH) = true := by kernel_rfl

end Go.Dm.TabWR
