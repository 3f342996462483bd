/-
The run of TreesRuns in the machine.
-/
import Derived.Test.YtniceconboecgaaTabA
namespace Go.Dm.TabA
open Go.Proofs

theorem runs : isTrue (callD (plainD tab) 2000 3 [] emptyH) = true := by kernel_rfl

end Go.Dm.TabA
