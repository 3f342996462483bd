/-
What a call of each function is (Tc). Written by program (wip/tools/table.lean.txt).
-/
import Derived.Test.YtfnhanajiibciaaGreatTc
import Derived.Test.YtfnhanajiibciaaGreatMm4
namespace Go.Dm.Tc

/-- broadside/broadsidelaw10.SubsPlays -/
theorem e6 (args : List DV) (h : Heap) : fc D 6 args h = callP D t6 h (args.mapM (resolve true h deepFuel)) := fc_pure (by kernel_rfl) (by kernel_rfl) rfl args h
/-- broadside/adverts.New -/
theorem e15 (args : List DV) (h : Heap) : fc D 15 args h = callP D t15 h (args.mapM (resolve true h deepFuel)) := fc_pure (by kernel_rfl) (by kernel_rfl) rfl args h
/-- broadside/broadsidebook.Within -/
theorem e16 (args : List DV) (h : Heap) : fc D 16 args h = callP D t16 h (args.mapM (resolve true h deepFuel)) := fc_pure (by kernel_rfl) (by kernel_rfl) rfl args h
/-- (broadside/broadsidekeep.Pred).Pred -/
theorem e18 (args : List DV) (h : Heap) : fc D 18 args h = callP D t18 h (args.mapM (resolve true h deepFuel)) := fc_pure (by kernel_rfl) (by kernel_rfl) rfl args h
/-- broadside/adverts.Learn -/
theorem e19 (args : List DV) (h : Heap) : fc D 19 args h = callZ D t19 (mapH freezeA h args) := fc_frz (by kernel_rfl) (by kernel_rfl) rfl args h
/-- broadside/broadsideref9.Learn -/
theorem e20 (args : List DV) (h : Heap) : fc D 20 args h = callZ D t20 (mapH freezeA h args) := fc_frz (by kernel_rfl) (by kernel_rfl) rfl args h
/-- broadside/adverts.Forget -/
theorem e21 (args : List DV) (h : Heap) : fc D 21 args h = callZ D t21 (mapH freezeA h args) := fc_frz (by kernel_rfl) (by kernel_rfl) rfl args h
/-- broadside/broadsideref9.Forget -/
theorem e22 (args : List DV) (h : Heap) : fc D 22 args h = callZ D t22 (mapH freezeA h args) := fc_frz (by kernel_rfl) (by kernel_rfl) rfl args h
/-- broadside/adverts.Find -/
theorem e23 (args : List DV) (h : Heap) : fc D 23 args h = callP D t23 h (args.mapM (resolve true h deepFuel)) := fc_pure (by kernel_rfl) (by kernel_rfl) rfl args h
/-- broadside/broadsideref9.Find -/
theorem e24 (args : List DV) (h : Heap) : fc D 24 args h = callP D t24 h (args.mapM (resolve true h deepFuel)) := fc_pure (by kernel_rfl) (by kernel_rfl) rfl args h
/-- broadside/broadsidekeep.Brokers -/
theorem e25 (args : List DV) (h : Heap) : fc D 25 args h = callP D t25 h (args.mapM (resolve true h deepFuel)) := fc_pure (by kernel_rfl) (by kernel_rfl) rfl args h
/-- broadside/adverts.Right -/
theorem e27 (args : List DV) (h : Heap) : fc D 27 args h = callP D t27 h (args.mapM (resolve true h deepFuel)) := fc_pure (by kernel_rfl) (by kernel_rfl) rfl args h
/-- broadside/subs.Add -/
theorem e31 (args : List DV) (h : Heap) : fc D 31 args h = callZ D t31 (mapH freezeA h args) := fc_frz (by kernel_rfl) (by kernel_rfl) rfl args h
/-- broadside/subs.Find -/
theorem e32 (args : List DV) (h : Heap) : fc D 32 args h = callP D t32 h (args.mapM (resolve true h deepFuel)) := fc_pure (by kernel_rfl) (by kernel_rfl) rfl args h
/-- broadside/broadsidelaw10.SubsRuns -/
theorem e33 (args : List DV) (h : Heap) : fc D 33 args h = callP D t33 h (args.mapM (resolve true h deepFuel)) := fc_pure (by kernel_rfl) (by kernel_rfl) rfl args h
/-- broadside/subs.Take -/
theorem e34 (args : List DV) (h : Heap) : fc D 34 args h = callZ D t34 (mapH freezeA h args) := fc_frz (by kernel_rfl) (by kernel_rfl) rfl args h
/-- broadside/subs.Covered -/
theorem e35 (args : List DV) (h : Heap) : fc D 35 args h = callP D t35 h (args.mapM (resolve true h deepFuel)) := fc_pure (by kernel_rfl) (by kernel_rfl) rfl args h
/-- broadside/broadsideref9.Covered -/
theorem e36 (args : List DV) (h : Heap) : fc D 36 args h = callP D t36 h (args.mapM (resolve true h deepFuel)) := fc_pure (by kernel_rfl) (by kernel_rfl) rfl args h
/-- broadside/broadsideref9.Add -/
theorem e37 (args : List DV) (h : Heap) : fc D 37 args h = callZ D t37 (mapH freezeA h args) := fc_frz (by kernel_rfl) (by kernel_rfl) rfl args h
/-- broadside/broadsideref9.Take -/
theorem e38 (args : List DV) (h : Heap) : fc D 38 args h = callZ D t38 (mapH freezeA h args) := fc_frz (by kernel_rfl) (by kernel_rfl) rfl args h
/-- broadside/broadsidekeep.Entries -/
theorem e39 (args : List DV) (h : Heap) : fc D 39 args h = callP D t39 h (args.mapM (resolve true h deepFuel)) := fc_pure (by kernel_rfl) (by kernel_rfl) rfl args h
/-- broadside/subs.Of -/
theorem e40 (args : List DV) (h : Heap) : fc D 40 args h = callP D t40 h (args.mapM (resolve true h deepFuel)) := fc_pure (by kernel_rfl) (by kernel_rfl) rfl args h
/-- broadside/subs.Tight -/
theorem e41 (args : List DV) (h : Heap) : fc D 41 args h = callP D t41 h (args.mapM (resolve true h deepFuel)) := fc_pure (by kernel_rfl) (by kernel_rfl) rfl args h
/-- broadside/broadsidebook.Same[broadside/api.Constraint] -/
theorem e48 (args : List DV) (h : Heap) : fc D 48 args h = callP D t48 h (args.mapM (resolve true h deepFuel)) := fc_pure (by kernel_rfl) (by kernel_rfl) rfl args h
/-- broadside/rel.Covers -/
theorem e54 (args : List DV) (h : Heap) : fc D 54 args h = callP D t54 h (args.mapM (resolve true h deepFuel)) := fc_pure (by kernel_rfl) (by kernel_rfl) rfl args h
/-- broadside/adverts.Less -/
theorem e56 (args : List DV) (h : Heap) : fc D 56 args h = callP D t56 h (args.mapM (resolve true h deepFuel)) := fc_pure (by kernel_rfl) (by kernel_rfl) rfl args h
/-- broadside/adverts.Seen -/
theorem e57 (args : List DV) (h : Heap) : fc D 57 args h = callP D t57 h (args.mapM (resolve true h deepFuel)) := fc_pure (by kernel_rfl) (by kernel_rfl) rfl args h
/-- slices.Sort[[]int,int] -/
theorem e65 (args : List DV) (h : Heap) : fc D 65 args h = goRun (ev D) t65 args h := fc_full (by kernel_rfl) (by kernel_rfl) rfl args h
/-- slices.Compact[[]int,int] -/
theorem e66 (args : List DV) (h : Heap) : fc D 66 args h = goRun (ev D) t66 args h := fc_full (by kernel_rfl) (by kernel_rfl) rfl args h
/-- broadside/broadsidekeep.Names -/
theorem e67 (args : List DV) (h : Heap) : fc D 67 args h = callP D t67 h (args.mapM (resolve true h deepFuel)) := fc_pure (by kernel_rfl) (by kernel_rfl) rfl args h
/-- broadside/broadsidekeep.Constraint -/
theorem e68 (args : List DV) (h : Heap) : fc D 68 args h = callP D t68 h (args.mapM (resolve true h deepFuel)) := fc_pure (by kernel_rfl) (by kernel_rfl) rfl args h
/-- broadside/broadsidekeep.pick -/
theorem e69 (args : List DV) (h : Heap) : fc D 69 args h = callP D t69 h (args.mapM (resolve true h deepFuel)) := fc_pure (by kernel_rfl) (by kernel_rfl) rfl args h
/-- broadside/adverts.copied -/
theorem e70 (args : List DV) (h : Heap) : fc D 70 args h = goRun (ev D) t70 args h := fc_full (by kernel_rfl) (by kernel_rfl) rfl args h
/-- broadside/adverts.seen -/
theorem e71 (args : List DV) (h : Heap) : fc D 71 args h = callP D t71 h (args.mapM (resolve true h deepFuel)) := fc_pure (by kernel_rfl) (by kernel_rfl) rfl args h
/-- broadside/adverts.place -/
theorem e72 (args : List DV) (h : Heap) : fc D 72 args h = callP D t72 h (args.mapM (resolve true h deepFuel)) := fc_pure (by kernel_rfl) (by kernel_rfl) rfl args h
/-- slices.Insert[[]broadside/api.Advert,broadside/api.Advert] -/
theorem e73 (args : List DV) (h : Heap) : fc D 73 args h = modeRun (ev D) t73 args h := fc_fn (by kernel_rfl) (by kernel_rfl) args h
/-- slices.Insert[[]broadside/api.ID,broadside/api.ID] -/
theorem e74 (args : List DV) (h : Heap) : fc D 74 args h = modeRun (ev D) t74 args h := fc_fn (by kernel_rfl) (by kernel_rfl) args h
/-- broadside/broadsideref9.seen -/
theorem e75 (args : List DV) (h : Heap) : fc D 75 args h = callP D t75 h (args.mapM (resolve true h deepFuel)) := fc_pure (by kernel_rfl) (by kernel_rfl) rfl args h
/-- broadside/broadsideref9.Less -/
theorem e76 (args : List DV) (h : Heap) : fc D 76 args h = callP D t76 h (args.mapM (resolve true h deepFuel)) := fc_pure (by kernel_rfl) (by kernel_rfl) rfl args h
/-- slices.Delete[[]broadside/api.Advert,broadside/api.Advert] -/
theorem e77 (args : List DV) (h : Heap) : fc D 77 args h = goRun (ev D) t77 args h := fc_full (by kernel_rfl) (by kernel_rfl) rfl args h
/-- slices.DeleteFunc[[]broadside/api.Entry,broadside/api.Entry] -/
theorem e78 (args : List DV) (h : Heap) : fc D 78 args h = goRun (ev D) t78 args h := fc_full (by kernel_rfl) (by kernel_rfl) rfl args h
/-- broadside/adverts.Forget$1 -/
theorem e79 (args : List DV) (h : Heap) : fc D 79 args h = callP D t79 h (args.mapM (resolve true h deepFuel)) := fc_pure (by kernel_rfl) (by kernel_rfl) rfl args h
/-- broadside/broadsidebook.Same[int] -/
theorem e80 (args : List DV) (h : Heap) : fc D 80 args h = callP D t80 h (args.mapM (resolve true h deepFuel)) := fc_pure (by kernel_rfl) (by kernel_rfl) rfl args h
/-- broadside/broadsidebook.Same[broadside/api.ID] -/
theorem e81 (args : List DV) (h : Heap) : fc D 81 args h = callP D t81 h (args.mapM (resolve true h deepFuel)) := fc_pure (by kernel_rfl) (by kernel_rfl) rfl args h
/-- broadside/adverts.rises[int] -/
theorem e91 (args : List DV) (h : Heap) : fc D 91 args h = callP D t91 h (args.mapM (resolve true h deepFuel)) := fc_pure (by kernel_rfl) (by kernel_rfl) rfl args h
/-- broadside/adverts.Right$1 -/
theorem e92 (args : List DV) (h : Heap) : fc D 92 args h = callP D t92 h (args.mapM (resolve true h deepFuel)) := fc_pure (by kernel_rfl) (by kernel_rfl) rfl args h
/-- broadside/adverts.rises[broadside/api.ID] -/
theorem e93 (args : List DV) (h : Heap) : fc D 93 args h = callP D t93 h (args.mapM (resolve true h deepFuel)) := fc_pure (by kernel_rfl) (by kernel_rfl) rfl args h
/-- broadside/adverts.rises[broadside/api.Advert] -/
theorem e94 (args : List DV) (h : Heap) : fc D 94 args h = callP D t94 h (args.mapM (resolve true h deepFuel)) := fc_pure (by kernel_rfl) (by kernel_rfl) rfl args h
/-- broadside/adverts.Right$2 -/
theorem e95 (args : List DV) (h : Heap) : fc D 95 args h = callP D t95 h (args.mapM (resolve true h deepFuel)) := fc_pure (by kernel_rfl) (by kernel_rfl) rfl args h
/-- broadside/adverts.rises[broadside/api.Own] -/
theorem e96 (args : List DV) (h : Heap) : fc D 96 args h = callP D t96 h (args.mapM (resolve true h deepFuel)) := fc_pure (by kernel_rfl) (by kernel_rfl) rfl args h
/-- broadside/adverts.Right$3 -/
theorem e97 (args : List DV) (h : Heap) : fc D 97 args h = callP D t97 h (args.mapM (resolve true h deepFuel)) := fc_pure (by kernel_rfl) (by kernel_rfl) rfl args h
/-- broadside/adverts.rises[broadside/api.Entry] -/
theorem e98 (args : List DV) (h : Heap) : fc D 98 args h = callP D t98 h (args.mapM (resolve true h deepFuel)) := fc_pure (by kernel_rfl) (by kernel_rfl) rfl args h
/-- broadside/adverts.Right$4 -/
theorem e99 (args : List DV) (h : Heap) : fc D 99 args h = callP D t99 h (args.mapM (resolve true h deepFuel)) := fc_pure (by kernel_rfl) (by kernel_rfl) rfl args h
/-- cmp.Or[int] -/
theorem e100 (args : List DV) (h : Heap) : fc D 100 args h = callP D t100 h (args.mapM (resolve true h deepFuel)) := fc_pure (by kernel_rfl) (by kernel_rfl) rfl args h
/-- broadside/adverts.compare -/
theorem e101 (args : List DV) (h : Heap) : fc D 101 args h = callP D t101 h (args.mapM (resolve true h deepFuel)) := fc_pure (by kernel_rfl) (by kernel_rfl) rfl args h
/-- slices.ContainsFunc[[]broadside/api.Advert,broadside/api.Advert] -/
theorem e102 (args : List DV) (h : Heap) : fc D 102 args h = callP D t102 h (args.mapM (resolve true h deepFuel)) := fc_pure (by kernel_rfl) (by kernel_rfl) rfl args h
/-- broadside/adverts.Right$5 -/
theorem e103 (args : List DV) (h : Heap) : fc D 103 args h = callP D t103 h (args.mapM (resolve true h deepFuel)) := fc_pure (by kernel_rfl) (by kernel_rfl) rfl args h
/-- broadside/adverts.link -/
theorem e104 (args : List DV) (h : Heap) : fc D 104 args h = callP D t104 h (args.mapM (resolve true h deepFuel)) := fc_pure (by kernel_rfl) (by kernel_rfl) rfl args h
/-- broadside/pred.Right -/
theorem e105 (args : List DV) (h : Heap) : fc D 105 args h = callP D t105 h (args.mapM (resolve true h deepFuel)) := fc_pure (by kernel_rfl) (by kernel_rfl) rfl args h
/-- slices.ContainsFunc[[]broadside/api.Entry,broadside/api.Entry] -/
theorem e106 (args : List DV) (h : Heap) : fc D 106 args h = callP D t106 h (args.mapM (resolve true h deepFuel)) := fc_pure (by kernel_rfl) (by kernel_rfl) rfl args h
/-- broadside/adverts.Right$6 -/
theorem e107 (args : List DV) (h : Heap) : fc D 107 args h = callP D t107 h (args.mapM (resolve true h deepFuel)) := fc_pure (by kernel_rfl) (by kernel_rfl) rfl args h
/-- broadside/adverts.rightEntry -/
theorem e108 (args : List DV) (h : Heap) : fc D 108 args h = callP D t108 h (args.mapM (resolve true h deepFuel)) := fc_pure (by kernel_rfl) (by kernel_rfl) rfl args h
/-- slices.ContainsFunc[[]broadside/api.Own,broadside/api.Own] -/
theorem e109 (args : List DV) (h : Heap) : fc D 109 args h = callP D t109 h (args.mapM (resolve true h deepFuel)) := fc_pure (by kernel_rfl) (by kernel_rfl) rfl args h
/-- broadside/adverts.Right$7 -/
theorem e110 (args : List DV) (h : Heap) : fc D 110 args h = callP D t110 h (args.mapM (resolve true h deepFuel)) := fc_pure (by kernel_rfl) (by kernel_rfl) rfl args h
/-- broadside/subs.place -/
theorem e113 (args : List DV) (h : Heap) : fc D 113 args h = callP D t113 h (args.mapM (resolve true h deepFuel)) := fc_pure (by kernel_rfl) (by kernel_rfl) rfl args h
/-- slices.Insert[[]broadside/api.Entry,broadside/api.Entry] -/
theorem e114 (args : List DV) (h : Heap) : fc D 114 args h = modeRun (ev D) t114 args h := fc_fn (by kernel_rfl) (by kernel_rfl) args h
/-- broadside/broadsidelaw10.SubsRuns$1 -/
theorem e115 (args : List DV) (h : Heap) : fc D 115 args h = callP D t115 h (args.mapM (resolve true h deepFuel)) := fc_pure (by kernel_rfl) (by kernel_rfl) rfl args h
/-- slices.Delete[[]broadside/api.Entry,broadside/api.Entry] -/
theorem e116 (args : List DV) (h : Heap) : fc D 116 args h = goRun (ev D) t116 args h := fc_full (by kernel_rfl) (by kernel_rfl) rfl args h
/-- broadside/subs.Covered$1 -/
theorem e117 (args : List DV) (h : Heap) : fc D 117 args h = callP D t117 h (args.mapM (resolve true h deepFuel)) := fc_pure (by kernel_rfl) (by kernel_rfl) rfl args h
/-- broadside/broadsideref1.Covers -/
theorem e118 (args : List DV) (h : Heap) : fc D 118 args h = callP D t118 h (args.mapM (resolve true h deepFuel)) := fc_pure (by kernel_rfl) (by kernel_rfl) rfl args h
/-- broadside/broadsideref9.entry -/
theorem e119 (args : List DV) (h : Heap) : fc D 119 args h = callP D t119 h (args.mapM (resolve true h deepFuel)) := fc_pure (by kernel_rfl) (by kernel_rfl) rfl args h
/-- broadside/rel.wider -/
theorem e130 (args : List DV) (h : Heap) : fc D 130 args h = callP D t130 h (args.mapM (resolve true h deepFuel)) := fc_pure (by kernel_rfl) (by kernel_rfl) rfl args h
/-- slices.pdqsortOrdered[int] -/
theorem e134 (args : List DV) (h : Heap) : fc D 134 args h = goRun (ev D) t134 args h := fc_full (by kernel_rfl) (by kernel_rfl) rfl args h
/-- math/bits.Len -/
theorem e135 (args : List DV) (h : Heap) : fc D 135 args h = callP D t135 h (args.mapM (resolve true h deepFuel)) := fc_pure (by kernel_rfl) (by kernel_rfl) rfl args h
/-- broadside/broadsidekeep.texts -/
theorem e136 (args : List DV) (h : Heap) : fc D 136 args h = callP D t136 h (args.mapM (resolve true h deepFuel)) := fc_pure (by kernel_rfl) (by kernel_rfl) rfl args h
/-- slices.BinarySearchFunc[[]broadside/api.ID,broadside/api.ID,broadside/api.ID] -/
theorem e139 (args : List DV) (h : Heap) : fc D 139 args h = callP D t139 h (args.mapM (resolve true h deepFuel)) := fc_pure (by kernel_rfl) (by kernel_rfl) rfl args h
/-- slices.BinarySearchFunc[[]broadside/api.Advert,broadside/api.Advert,broadside/api.ID] -/
theorem e140 (args : List DV) (h : Heap) : fc D 140 args h = callP D t140 h (args.mapM (resolve true h deepFuel)) := fc_pure (by kernel_rfl) (by kernel_rfl) rfl args h
/-- broadside/adverts.place$1 -/
theorem e141 (args : List DV) (h : Heap) : fc D 141 args h = callP D t141 h (args.mapM (resolve true h deepFuel)) := fc_pure (by kernel_rfl) (by kernel_rfl) rfl args h
/-- slices.rotateRight[broadside/api.Advert] -/
theorem e143 (args : List DV) (h : Heap) : fc D 143 args h = goRun (ev D) t143 args h := fc_full (by kernel_rfl) (by kernel_rfl) rfl args h
/-- slices.rotateRight[broadside/api.ID] -/
theorem e145 (args : List DV) (h : Heap) : fc D 145 args h = goRun (ev D) t145 args h := fc_full (by kernel_rfl) (by kernel_rfl) rfl args h
/-- slices.IndexFunc[[]broadside/api.Entry,broadside/api.Entry] -/
theorem e146 (args : List DV) (h : Heap) : fc D 146 args h = callP D t146 h (args.mapM (resolve true h deepFuel)) := fc_pure (by kernel_rfl) (by kernel_rfl) rfl args h
/-- cmp.Compare[int] -/
theorem e148 (args : List DV) (h : Heap) : fc D 148 args h = callP D t148 h (args.mapM (resolve true h deepFuel)) := fc_pure (by kernel_rfl) (by kernel_rfl) rfl args h
/-- slices.IndexFunc[[]broadside/api.Advert,broadside/api.Advert] -/
theorem e149 (args : List DV) (h : Heap) : fc D 149 args h = callP D t149 h (args.mapM (resolve true h deepFuel)) := fc_pure (by kernel_rfl) (by kernel_rfl) rfl args h
/-- slices.Contains[[]int,int] -/
theorem e150 (args : List DV) (h : Heap) : fc D 150 args h = callP D t150 h (args.mapM (resolve true h deepFuel)) := fc_pure (by kernel_rfl) (by kernel_rfl) rfl args h
/-- broadside/pred.RightOne -/
theorem e151 (args : List DV) (h : Heap) : fc D 151 args h = callP D t151 h (args.mapM (resolve true h deepFuel)) := fc_pure (by kernel_rfl) (by kernel_rfl) rfl args h
/-- slices.IndexFunc[[]broadside/api.Own,broadside/api.Own] -/
theorem e152 (args : List DV) (h : Heap) : fc D 152 args h = callP D t152 h (args.mapM (resolve true h deepFuel)) := fc_pure (by kernel_rfl) (by kernel_rfl) rfl args h
/-- slices.BinarySearchFunc[[]broadside/api.Entry,broadside/api.Entry,broadside/api.ID] -/
theorem e154 (args : List DV) (h : Heap) : fc D 154 args h = callP D t154 h (args.mapM (resolve true h deepFuel)) := fc_pure (by kernel_rfl) (by kernel_rfl) rfl args h
/-- broadside/subs.place$1 -/
theorem e155 (args : List DV) (h : Heap) : fc D 155 args h = callP D t155 h (args.mapM (resolve true h deepFuel)) := fc_pure (by kernel_rfl) (by kernel_rfl) rfl args h
/-- slices.rotateRight[broadside/api.Entry] -/
theorem e157 (args : List DV) (h : Heap) : fc D 157 args h = goRun (ev D) t157 args h := fc_full (by kernel_rfl) (by kernel_rfl) rfl args h
/-- broadside/broadsideref1.Implies -/
theorem e158 (args : List DV) (h : Heap) : fc D 158 args h = callP D t158 h (args.mapM (resolve true h deepFuel)) := fc_pure (by kernel_rfl) (by kernel_rfl) rfl args h
/-- strings.HasPrefix -/
theorem e166 (args : List DV) (h : Heap) : fc D 166 args h = callP D t166 h (args.mapM (resolve true h deepFuel)) := fc_pure (by kernel_rfl) (by kernel_rfl) rfl args h
/-- broadside/pred.Holds -/
theorem e167 (args : List DV) (h : Heap) : fc D 167 args h = callP D t167 h (args.mapM (resolve true h deepFuel)) := fc_pure (by kernel_rfl) (by kernel_rfl) rfl args h
/-- broadside/value.Text -/
theorem e168 (args : List DV) (h : Heap) : fc D 168 args h = callP D t168 h (args.mapM (resolve true h deepFuel)) := fc_pure (by kernel_rfl) (by kernel_rfl) rfl args h
/-- slices.insertionSortOrdered[int] -/
theorem e170 (args : List DV) (h : Heap) : fc D 170 args h = goRun (ev D) t170 args h := fc_full (by kernel_rfl) (by kernel_rfl) rfl args h
/-- slices.heapSortOrdered[int] -/
theorem e171 (args : List DV) (h : Heap) : fc D 171 args h = goRun (ev D) t171 args h := fc_full (by kernel_rfl) (by kernel_rfl) rfl args h
/-- slices.breakPatternsOrdered[int] -/
theorem e172 (args : List DV) (h : Heap) : fc D 172 args h = goRun (ev D) t172 args h := fc_full (by kernel_rfl) (by kernel_rfl) rfl args h
/-- slices.choosePivotOrdered[int] -/
theorem e173 (args : List DV) (h : Heap) : fc D 173 args h = goRun (ev D) t173 args h := fc_full (by kernel_rfl) (by kernel_rfl) rfl args h
/-- slices.reverseRangeOrdered[int] -/
theorem e174 (args : List DV) (h : Heap) : fc D 174 args h = goRun (ev D) t174 args h := fc_full (by kernel_rfl) (by kernel_rfl) rfl args h
/-- slices.partialInsertionSortOrdered[int] -/
theorem e175 (args : List DV) (h : Heap) : fc D 175 args h = goRun (ev D) t175 args h := fc_full (by kernel_rfl) (by kernel_rfl) rfl args h
/-- cmp.Less[int] -/
theorem e176 (args : List DV) (h : Heap) : fc D 176 args h = callP D t176 h (args.mapM (resolve true h deepFuel)) := fc_pure (by kernel_rfl) (by kernel_rfl) rfl args h
/-- slices.partitionEqualOrdered[int] -/
theorem e177 (args : List DV) (h : Heap) : fc D 177 args h = goRun (ev D) t177 args h := fc_full (by kernel_rfl) (by kernel_rfl) rfl args h
/-- slices.partitionOrdered[int] -/
theorem e178 (args : List DV) (h : Heap) : fc D 178 args h = goRun (ev D) t178 args h := fc_full (by kernel_rfl) (by kernel_rfl) rfl args h
/-- math/bits.Len32 -/
theorem e179 (args : List DV) (h : Heap) : fc D 179 args h = callP D t179 h (args.mapM (resolve true h deepFuel)) := fc_pure (by kernel_rfl) (by kernel_rfl) rfl args h
/-- math/bits.Len64 -/
theorem e180 (args : List DV) (h : Heap) : fc D 180 args h = callP D t180 h (args.mapM (resolve true h deepFuel)) := fc_pure (by kernel_rfl) (by kernel_rfl) rfl args h
/-- slices.rotateLeft[broadside/api.Advert] -/
theorem e181 (args : List DV) (h : Heap) : fc D 181 args h = goRun (ev D) t181 args h := fc_full (by kernel_rfl) (by kernel_rfl) rfl args h
/-- slices.rotateLeft[broadside/api.ID] -/
theorem e182 (args : List DV) (h : Heap) : fc D 182 args h = goRun (ev D) t182 args h := fc_full (by kernel_rfl) (by kernel_rfl) rfl args h
/-- cmp.isNaN[int] -/
theorem e183 (args : List DV) (h : Heap) : fc D 183 args h = callP D t183 h (args.mapM (resolve true h deepFuel)) := fc_pure (by kernel_rfl) (by kernel_rfl) rfl args h
/-- slices.Index[[]int,int] -/
theorem e184 (args : List DV) (h : Heap) : fc D 184 args h = callP D t184 h (args.mapM (resolve true h deepFuel)) := fc_pure (by kernel_rfl) (by kernel_rfl) rfl args h
/-- broadside/tuple.Name -/
theorem e185 (args : List DV) (h : Heap) : fc D 185 args h = callP D t185 h (args.mapM (resolve true h deepFuel)) := fc_pure (by kernel_rfl) (by kernel_rfl) rfl args h
/-- slices.rotateLeft[broadside/api.Entry] -/
theorem e187 (args : List DV) (h : Heap) : fc D 187 args h = goRun (ev D) t187 args h := fc_full (by kernel_rfl) (by kernel_rfl) rfl args h
/-- broadside/broadsideref1.begins -/
theorem e188 (args : List DV) (h : Heap) : fc D 188 args h = callP D t188 h (args.mapM (resolve true h deepFuel)) := fc_pure (by kernel_rfl) (by kernel_rfl) rfl args h
/-- internal/stringslite.HasPrefix -/
theorem e198 (args : List DV) (h : Heap) : fc D 198 args h = callP D t198 h (args.mapM (resolve true h deepFuel)) := fc_pure (by kernel_rfl) (by kernel_rfl) rfl args h
/-- slices.siftDownOrdered[int] -/
theorem e199 (args : List DV) (h : Heap) : fc D 199 args h = goRun (ev D) t199 args h := fc_full (by kernel_rfl) (by kernel_rfl) rfl args h
/-- slices.nextPowerOfTwo -/
theorem e200 (args : List DV) (h : Heap) : fc D 200 args h = callP D t200 h (args.mapM (resolve true h deepFuel)) := fc_pure (by kernel_rfl) (by kernel_rfl) rfl args h
/-- (*slices.xorshift).Next -/
theorem e201 (args : List DV) (h : Heap) : fc D 201 args h = goRun (ev D) t201 args h := fc_full (by kernel_rfl) (by kernel_rfl) rfl args h
/-- slices.medianAdjacentOrdered[int] -/
theorem e202 (args : List DV) (h : Heap) : fc D 202 args h = goRun (ev D) t202 args h := fc_full (by kernel_rfl) (by kernel_rfl) rfl args h
/-- slices.medianOrdered[int] -/
theorem e203 (args : List DV) (h : Heap) : fc D 203 args h = goRun (ev D) t203 args h := fc_full (by kernel_rfl) (by kernel_rfl) rfl args h
/-- slices.Reverse[[]broadside/api.Advert,broadside/api.Advert] -/
theorem e204 (args : List DV) (h : Heap) : fc D 204 args h = goRun (ev D) t204 args h := fc_full (by kernel_rfl) (by kernel_rfl) rfl args h
/-- slices.Reverse[[]broadside/api.ID,broadside/api.ID] -/
theorem e205 (args : List DV) (h : Heap) : fc D 205 args h = goRun (ev D) t205 args h := fc_full (by kernel_rfl) (by kernel_rfl) rfl args h
/-- slices.Reverse[[]broadside/api.Entry,broadside/api.Entry] -/
theorem e207 (args : List DV) (h : Heap) : fc D 207 args h = goRun (ev D) t207 args h := fc_full (by kernel_rfl) (by kernel_rfl) rfl args h
/-- slices.order2Ordered[int] -/
theorem e212 (args : List DV) (h : Heap) : fc D 212 args h = callP D t212 h (args.mapM (resolve true h deepFuel)) := fc_pure (by kernel_rfl) (by kernel_rfl) rfl args h
theorem e144 (args : List DV) (h : Heap) : fc D 144 args h = overlapsHook h args := fc_hook (by kernel_rfl) args h
theorem e142 (args : List DV) (h : Heap) : fc D 142 args h = overlapsHook h args := fc_hook (by kernel_rfl) args h
theorem e156 (args : List DV) (h : Heap) : fc D 156 args h = overlapsHook h args := fc_hook (by kernel_rfl) args h
/-- slices.Clone[[]broadside/api.Own,broadside/api.Own] -/
theorem e126 (args : List DV) (h : Heap) : fc D 126 args h = cloneHook 60 3 40 h args := fc_hook (by kernel_rfl) args h
/-- slices.Clone[[]broadside/api.ID,broadside/api.ID] -/
theorem e138 (args : List DV) (h : Heap) : fc D 138 args h = cloneHook 37 2 16 h args := fc_hook (by kernel_rfl) args h
/-- slices.Clone[[]broadside/api.Advert,broadside/api.Advert] -/
theorem e137 (args : List DV) (h : Heap) : fc D 137 args h = cloneHook 42 4 48 h args := fc_hook (by kernel_rfl) args h
/-- slices.Clone[[]broadside/api.Entry,broadside/api.Entry] -/
theorem e112 (args : List DV) (h : Heap) : fc D 112 args h = cloneHook 58 7 72 h args := fc_hook (by kernel_rfl) args h
/-- slices.Clone[[]int,int] -/
theorem e64 (args : List DV) (h : Heap) : fc D 64 args h = cloneHook 3 1 8 h args := fc_hook (by kernel_rfl) args h

end Go.Dm.Tc
