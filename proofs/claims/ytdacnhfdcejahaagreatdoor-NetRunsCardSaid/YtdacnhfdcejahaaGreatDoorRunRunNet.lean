/-
The run of NetRuns in the machine.
-/
import Derived.Test.YtdacnhfdcejahaaGreatDoorTabN
import Derived.KernelRfl
namespace Go.Dm.RunNet
open Go.Proofs

theorem runs : isTrue (callD TabN.D 5000 5 [] emptyH) = true := by kernel_rfl

end Go.Dm.RunNet
