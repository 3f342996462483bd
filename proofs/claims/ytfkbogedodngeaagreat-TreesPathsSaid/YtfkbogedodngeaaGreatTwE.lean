/- A part of the proof. -/
import Derived.Test.YtfkbogedodngeaaGreatTw
import Derived.Test.YtfkbogedodngeaaGreatMm5
namespace Go.Dm.Tw

/-- cmp.Or[int] -/
theorem SV(args : List DV)(h : aA) : fc D 109 args h = rH D Ae h (args.mapM (resolve true h bT)) := bZ (by kernel_rfl) (by kernel_rfl) rfl args h
/-- cmp.Compare[int] -/
theorem SU(args : List DV)(h : aA) : fc D 110 args h = rH D tA h (args.mapM (resolve true h bT)) := bZ (by kernel_rfl) (by kernel_rfl) rfl args h
/-- broadside/graph.Ways$1 -/
theorem WS(args : List DV)(h : aA) : fc D 133 args h = rH D Dt h (args.mapM (resolve true h bT)) := bZ (by kernel_rfl) (by kernel_rfl) rfl args h
/-- cmp.isNaN[int] -/
theorem A9(args : List DV)(h : aA) : fc D 142 args h = rH D Ad h (args.mapM (resolve true h bT)) := bZ (by kernel_rfl) (by kernel_rfl) rfl args h

end Go.Dm.Tw
