/- A part of the proof. -/
import Derived.Test.YtloabemenciijaaGreatDoorTw
import Derived.Test.YtloabemenciijaaGreatDoorMm5
namespace Go.Dm.Tw

/-- cmp.Or[int] -/
theorem SR(args : List DV)(h : aA) : fc D 106 args h = nA D vM h (args.mapM (resolve true h aW)) := eI (by kernel_rfl) (by kernel_rfl) rfl args h
/-- broadside/graph.Ways$1 -/
theorem SP(args : List DV)(h : aA) : fc D 131 args h = nA D yT h (args.mapM (resolve true h aW)) := eI (by kernel_rfl) (by kernel_rfl) rfl args h
/-- cmp.Compare[int] -/
theorem SO(args : List DV)(h : aA) : fc D 132 args h = nA D pF h (args.mapM (resolve true h aW)) := eI (by kernel_rfl) (by kernel_rfl) rfl args h
/-- cmp.isNaN[int] -/
theorem So(args : List DV)(h : aA) : fc D 220 args h = nA D vL h (args.mapM (resolve true h aW)) := eI (by kernel_rfl) (by kernel_rfl) rfl args h

end Go.Dm.Tw
