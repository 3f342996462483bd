/-
The run of FloodRuns in the machine.
-/
import Derived.Test.YtdacnhfdcejahaaTabF
import Derived.KernelRfl
namespace Go.Dm.TabF
open Go.Proofs

theorem runs : isTrue (callD D 5000 3 [] emptyH) = true := by kernel_rfl

end Go.Dm.TabF
