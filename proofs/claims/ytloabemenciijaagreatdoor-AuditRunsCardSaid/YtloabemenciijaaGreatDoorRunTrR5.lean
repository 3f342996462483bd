/-
The run of AuditRuns in the machine.
-/
import Derived.Test.YtloabemenciijaaGreatDoorTr5
import Derived.KernelRfl
namespace Go.Dm.TrR5
open Go.Proofs

theorem runs : isTrue (callD Tr5.D 5000 5 [] emptyH) = true := by kernel_rfl

end Go.Dm.TrR5
