/-
The run of SubsRuns in the machine.
-/
import Derived.Test.YtniceconboecgaaTabC
import Derived.KernelRfl
namespace Go.Dm.TabC
open Go.Proofs

theorem runs : isTrue (callD D 5000 8 [] emptyH) = true := by kernel_rfl

end Go.Dm.TabC
