/- A part of the proof. -/
import Derived.Test.YtfkbogedodngeaaGreatTw
import Derived.Test.YtfkbogedodngeaaGreatMm5
namespace Go.Dm.Tw

/-- cmp.Or[int] -/
theorem PN(args : List DV)(h : aA) : fc D 109 args h = sN D Aw h (args.mapM (resolve true h cG)) := bK (by kernel_rfl) (by kernel_rfl) rfl args h
/-- cmp.Compare[int] -/
theorem PM(args : List DV)(h : aA) : fc D 110 args h = sN D uO h (args.mapM (resolve true h cG)) := bK (by kernel_rfl) (by kernel_rfl) rfl args h
/-- broadside/graph.Ways$1 -/
theorem UD(args : List DV)(h : aA) : fc D 133 args h = sN D Wi h (args.mapM (resolve true h cG)) := bK (by kernel_rfl) (by kernel_rfl) rfl args h
/-- cmp.isNaN[int] -/
theorem Zy(args : List DV)(h : aA) : fc D 142 args h = sN D Av h (args.mapM (resolve true h cG)) := bK (by kernel_rfl) (by kernel_rfl) rfl args h

end Go.Dm.Tw
