/-
The run of RouteRuns in the machine.
-/
import Derived.Test.YtdacnhfdcejahaaGreatTabR
import Derived.KernelRfl
namespace Go.Dm.TabR
open Go.Proofs

theorem runs : isTrue (callD D 5000 3 [] emptyH) = true := by kernel_rfl

end Go.Dm.TabR
