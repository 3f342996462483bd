/-
The run of BrokerRuns in the machine.
-/
import Derived.Test.YtdacnhfdcejahaaGreatDoorTabB
import Derived.KernelRfl
namespace Go.Dm.RunBroker
open Go.Proofs

theorem runs : isTrue (callD TabB.D 5000 3 [] emptyH) = true := by kernel_rfl

end Go.Dm.RunBroker
