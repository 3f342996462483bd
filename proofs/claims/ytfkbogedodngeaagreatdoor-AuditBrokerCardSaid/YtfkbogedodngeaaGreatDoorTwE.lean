/- A part of the proof. -/
import Derived.Test.YtfkbogedodngeaaGreatDoorTw
import Derived.Test.YtfkbogedodngeaaGreatDoorMm5
namespace Go.Dm.Tw

/-- broadside/graph.Ways$1 -/
theorem w7(args : List DV)(h : aA) : fc D 103 args h = tP D Hh h (args.mapM (resolve true h cO)) := aY (by kernel_rfl) (by kernel_rfl) rfl args h
/-- cmp.Or[int] -/
theorem SD(args : List DV)(h : aA) : fc D 104 args h = tP D Cv h (args.mapM (resolve true h cO)) := aY (by kernel_rfl) (by kernel_rfl) rfl args h
/-- cmp.Compare[int] -/
theorem XW(args : List DV)(h : aA) : fc D 105 args h = tP D wA h (args.mapM (resolve true h cO)) := aY (by kernel_rfl) (by kernel_rfl) rfl args h
/-- cmp.isNaN[int] -/
theorem P7(args : List DV)(h : aA) : fc D 193 args h = tP D Ct h (args.mapM (resolve true h cO)) := aY (by kernel_rfl) (by kernel_rfl) rfl args h

end Go.Dm.Tw
