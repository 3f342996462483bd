/- A part of the proof. -/
import Derived.Test.YtfkbogedodngeaaGreatDoorTw
import Derived.Test.YtfkbogedodngeaaGreatDoorMm5
namespace Go.Dm.Tw

/-- broadside/graph.Ways$1 -/
theorem e103(args : List DV)(h : aA) : fc D 103 args h = sQ D Fw h (args.mapM (resolve true h bO)) := dA (by kernel_rfl) (by kernel_rfl) rfl args h
/-- cmp.Or[int] -/
theorem XD(args : List DV)(h : aA) : fc D 104 args h = sQ D Ca h (args.mapM (resolve true h bO)) := dA (by kernel_rfl) (by kernel_rfl) rfl args h
/-- cmp.Compare[int] -/
theorem XC(args : List DV)(h : aA) : fc D 105 args h = sQ D uR h (args.mapM (resolve true h bO)) := dA (by kernel_rfl) (by kernel_rfl) rfl args h
/-- cmp.isNaN[int] -/
theorem K7(args : List DV)(h : aA) : fc D 193 args h = sQ D Bz h (args.mapM (resolve true h bO)) := dA (by kernel_rfl) (by kernel_rfl) rfl args h

end Go.Dm.Tw
