/-
The run of AdvertsRuns in the machine.
-/
import Derived.Test.YtniceconboecgaaTabB
import Derived.KernelRfl
namespace Go.Dm.TabB
open Go.Proofs

theorem runs : isTrue (callD (plainD tab) 5000 6 [] emptyH) = true := by kernel_rfl

end Go.Dm.TabB
