/- A part of the proof. -/
import Derived.Test.YtfkbogedodngeaaGreatDoorTw
import Derived.Test.YtfkbogedodngeaaGreatDoorMm5
namespace Go.Dm.Tw

/-- broadside/graph.Ways$1 -/
theorem t9(args : List DV)(h : aA) : fc D 103 args h = sG D Fk h (args.mapM (resolve true h bT)) := cG (by kernel_rfl) (by kernel_rfl) rfl args h
/-- cmp.Or[int] -/
theorem WP(args : List DV)(h : aA) : fc D 104 args h = sG D Bg h (args.mapM (resolve true h bT)) := cG (by kernel_rfl) (by kernel_rfl) rfl args h
/-- cmp.Compare[int] -/
theorem WO(args : List DV)(h : aA) : fc D 105 args h = sG D uJ h (args.mapM (resolve true h bT)) := cG (by kernel_rfl) (by kernel_rfl) rfl args h
/-- cmp.isNaN[int] -/
theorem I8(args : List DV)(h : aA) : fc D 193 args h = sG D Bf h (args.mapM (resolve true h bT)) := cG (by kernel_rfl) (by kernel_rfl) rfl args h

end Go.Dm.Tw
