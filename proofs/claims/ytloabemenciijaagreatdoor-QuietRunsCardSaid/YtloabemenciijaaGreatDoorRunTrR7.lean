/-
The run of QuietRuns in the machine.
-/
import Derived.Test.YtloabemenciijaaGreatDoorTr7
import Derived.KernelRfl
namespace Go.Dm.TrR7
open Go.Proofs

theorem runs : isTrue (callD Tr7.D 5000 7 [] emptyH) = true := by kernel_rfl

end Go.Dm.TrR7
