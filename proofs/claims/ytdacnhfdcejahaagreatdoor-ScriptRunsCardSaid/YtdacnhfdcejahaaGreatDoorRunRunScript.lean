/-
The run of ScriptRuns in the machine.
-/
import Derived.Test.YtdacnhfdcejahaaGreatDoorTabS
import Derived.KernelRfl
namespace Go.Dm.RunScript
open Go.Proofs

theorem runs : isTrue (callD TabS.D 5000 10 [] emptyH) = true := by kernel_rfl

end Go.Dm.RunScript
