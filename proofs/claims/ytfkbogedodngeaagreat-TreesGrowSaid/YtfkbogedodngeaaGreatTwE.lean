/- A part of the proof. -/
import Derived.Test.YtfkbogedodngeaaGreatTw
import Derived.Test.YtfkbogedodngeaaGreatMm5
namespace Go.Dm.Tw

/-- cmp.Or[int] -/
theorem TG(args : List DV)(h : aA) : fc D 109 args h = rI D Ag h (args.mapM (resolve true h bU)) := bZ (by kernel_rfl) (by kernel_rfl) rfl args h
/-- cmp.Compare[int] -/
theorem TF(args : List DV)(h : aA) : fc D 110 args h = rI D tG h (args.mapM (resolve true h bU)) := bZ (by kernel_rfl) (by kernel_rfl) rfl args h
/-- broadside/graph.Ways$1 -/
theorem XA(args : List DV)(h : aA) : fc D 133 args h = rI D Dz h (args.mapM (resolve true h bU)) := bZ (by kernel_rfl) (by kernel_rfl) rfl args h
/-- cmp.isNaN[int] -/
theorem B4(args : List DV)(h : aA) : fc D 142 args h = rI D Af h (args.mapM (resolve true h bU)) := bZ (by kernel_rfl) (by kernel_rfl) rfl args h

end Go.Dm.Tw
