/-
What a call of each function is (Tc). Written by program (wip/tools/table.lean.txt).
-/
import Derived.Test.YtfnhanajiibciaaTc
import Derived.Test.YtfnhanajiibciaaMm4
namespace Go.Dm.Tc

/-- broadside/broadsidelaw10.SubsOrder -/
theorem e5 (args : List DV) (h : Heap) : fc D 5 args h = callP D t5 h (args.mapM (resolve true h deepFuel)) := fc_pure (by kernel_rfl) (by kernel_rfl) rfl args h
/-- broadside/adverts.New -/
theorem e7 (args : List DV) (h : Heap) : fc D 7 args h = callP D t7 h (args.mapM (resolve true h deepFuel)) := fc_pure (by kernel_rfl) (by kernel_rfl) rfl args h
/-- broadside/broadsidebook.Within -/
theorem e8 (args : List DV) (h : Heap) : fc D 8 args h = callP D t8 h (args.mapM (resolve true h deepFuel)) := fc_pure (by kernel_rfl) (by kernel_rfl) rfl args h
/-- broadside/adverts.Learn -/
theorem e9 (args : List DV) (h : Heap) : fc D 9 args h = callZ D t9 (mapH freezeA h args) := fc_frz (by kernel_rfl) (by kernel_rfl) rfl args h
/-- (broadside/broadsidekeep.Pred).Pred -/
theorem e10 (args : List DV) (h : Heap) : fc D 10 args h = callP D t10 h (args.mapM (resolve true h deepFuel)) := fc_pure (by kernel_rfl) (by kernel_rfl) rfl args h
/-- broadside/adverts.Find -/
theorem e12 (args : List DV) (h : Heap) : fc D 12 args h = callP D t12 h (args.mapM (resolve true h deepFuel)) := fc_pure (by kernel_rfl) (by kernel_rfl) rfl args h
/-- broadside/adverts.Less -/
theorem e14 (args : List DV) (h : Heap) : fc D 14 args h = callP D t14 h (args.mapM (resolve true h deepFuel)) := fc_pure (by kernel_rfl) (by kernel_rfl) rfl args h
/-- broadside/subs.Add -/
theorem e17 (args : List DV) (h : Heap) : fc D 17 args h = callZ D t17 (mapH freezeA h args) := fc_frz (by kernel_rfl) (by kernel_rfl) rfl args h
/-- broadside/subs.Covered -/
theorem e18 (args : List DV) (h : Heap) : fc D 18 args h = callP D t18 h (args.mapM (resolve true h deepFuel)) := fc_pure (by kernel_rfl) (by kernel_rfl) rfl args h
/-- broadside/subs.Take -/
theorem e19 (args : List DV) (h : Heap) : fc D 19 args h = callZ D t19 (mapH freezeA h args) := fc_frz (by kernel_rfl) (by kernel_rfl) rfl args h
/-- broadside/subs.Find -/
theorem e20 (args : List DV) (h : Heap) : fc D 20 args h = callP D t20 h (args.mapM (resolve true h deepFuel)) := fc_pure (by kernel_rfl) (by kernel_rfl) rfl args h
/-- broadside/subs.Tight -/
theorem e21 (args : List DV) (h : Heap) : fc D 21 args h = callP D t21 h (args.mapM (resolve true h deepFuel)) := fc_pure (by kernel_rfl) (by kernel_rfl) rfl args h
/-- broadside/subs.Of -/
theorem e22 (args : List DV) (h : Heap) : fc D 22 args h = callP D t22 h (args.mapM (resolve true h deepFuel)) := fc_pure (by kernel_rfl) (by kernel_rfl) rfl args h
/-- broadside/rel.Covers -/
theorem e23 (args : List DV) (h : Heap) : fc D 23 args h = callP D t23 h (args.mapM (resolve true h deepFuel)) := fc_pure (by kernel_rfl) (by kernel_rfl) rfl args h
/-- broadside/broadsidelaw10.SubsRuns -/
theorem e24 (args : List DV) (h : Heap) : fc D 24 args h = callP D t24 h (args.mapM (resolve true h deepFuel)) := fc_pure (by kernel_rfl) (by kernel_rfl) rfl args h
/-- broadside/broadsidebook.Same[broadside/api.Constraint] -/
theorem e25 (args : List DV) (h : Heap) : fc D 25 args h = callP D t25 h (args.mapM (resolve true h deepFuel)) := fc_pure (by kernel_rfl) (by kernel_rfl) rfl args h
/-- slices.Sort[[]int,int] -/
theorem e28 (args : List DV) (h : Heap) : fc D 28 args h = goRun (ev D) t28 args h := fc_full (by kernel_rfl) (by kernel_rfl) rfl args h
/-- slices.Compact[[]int,int] -/
theorem e29 (args : List DV) (h : Heap) : fc D 29 args h = goRun (ev D) t29 args h := fc_full (by kernel_rfl) (by kernel_rfl) rfl args h
/-- broadside/adverts.copied -/
theorem e30 (args : List DV) (h : Heap) : fc D 30 args h = goRun (ev D) t30 args h := fc_full (by kernel_rfl) (by kernel_rfl) rfl args h
/-- broadside/adverts.seen -/
theorem e31 (args : List DV) (h : Heap) : fc D 31 args h = callP D t31 h (args.mapM (resolve true h deepFuel)) := fc_pure (by kernel_rfl) (by kernel_rfl) rfl args h
/-- broadside/adverts.place -/
theorem e32 (args : List DV) (h : Heap) : fc D 32 args h = callP D t32 h (args.mapM (resolve true h deepFuel)) := fc_pure (by kernel_rfl) (by kernel_rfl) rfl args h
/-- slices.Insert[[]broadside/api.Advert,broadside/api.Advert] -/
theorem e33 (args : List DV) (h : Heap) : fc D 33 args h = modeRun (ev D) t33 args h := fc_fn (by kernel_rfl) (by kernel_rfl) args h
/-- slices.Insert[[]broadside/api.ID,broadside/api.ID] -/
theorem e34 (args : List DV) (h : Heap) : fc D 34 args h = modeRun (ev D) t34 args h := fc_fn (by kernel_rfl) (by kernel_rfl) args h
/-- broadside/broadsidekeep.Names -/
theorem e35 (args : List DV) (h : Heap) : fc D 35 args h = callP D t35 h (args.mapM (resolve true h deepFuel)) := fc_pure (by kernel_rfl) (by kernel_rfl) rfl args h
/-- broadside/broadsidekeep.Constraint -/
theorem e36 (args : List DV) (h : Heap) : fc D 36 args h = callP D t36 h (args.mapM (resolve true h deepFuel)) := fc_pure (by kernel_rfl) (by kernel_rfl) rfl args h
/-- broadside/broadsidekeep.pick -/
theorem e37 (args : List DV) (h : Heap) : fc D 37 args h = callP D t37 h (args.mapM (resolve true h deepFuel)) := fc_pure (by kernel_rfl) (by kernel_rfl) rfl args h
/-- broadside/adverts.compare -/
theorem e41 (args : List DV) (h : Heap) : fc D 41 args h = callP D t41 h (args.mapM (resolve true h deepFuel)) := fc_pure (by kernel_rfl) (by kernel_rfl) rfl args h
/-- cmp.Or[int] -/
theorem e51 (args : List DV) (h : Heap) : fc D 51 args h = callP D t51 h (args.mapM (resolve true h deepFuel)) := fc_pure (by kernel_rfl) (by kernel_rfl) rfl args h
/-- slices.ContainsFunc[[]broadside/api.Entry,broadside/api.Entry] -/
theorem e56 (args : List DV) (h : Heap) : fc D 56 args h = callP D t56 h (args.mapM (resolve true h deepFuel)) := fc_pure (by kernel_rfl) (by kernel_rfl) rfl args h
/-- broadside/subs.place -/
theorem e63 (args : List DV) (h : Heap) : fc D 63 args h = callP D t63 h (args.mapM (resolve true h deepFuel)) := fc_pure (by kernel_rfl) (by kernel_rfl) rfl args h
/-- slices.Insert[[]broadside/api.Entry,broadside/api.Entry] -/
theorem e64 (args : List DV) (h : Heap) : fc D 64 args h = modeRun (ev D) t64 args h := fc_fn (by kernel_rfl) (by kernel_rfl) args h
/-- broadside/subs.Covered$1 -/
theorem e65 (args : List DV) (h : Heap) : fc D 65 args h = callP D t65 h (args.mapM (resolve true h deepFuel)) := fc_pure (by kernel_rfl) (by kernel_rfl) rfl args h
/-- slices.Delete[[]broadside/api.Entry,broadside/api.Entry] -/
theorem e66 (args : List DV) (h : Heap) : fc D 66 args h = goRun (ev D) t66 args h := fc_full (by kernel_rfl) (by kernel_rfl) rfl args h
/-- broadside/rel.wider -/
theorem e67 (args : List DV) (h : Heap) : fc D 67 args h = callP D t67 h (args.mapM (resolve true h deepFuel)) := fc_pure (by kernel_rfl) (by kernel_rfl) rfl args h
/-- broadside/broadsidelaw10.SubsRuns$1 -/
theorem e68 (args : List DV) (h : Heap) : fc D 68 args h = callP D t68 h (args.mapM (resolve true h deepFuel)) := fc_pure (by kernel_rfl) (by kernel_rfl) rfl args h
/-- slices.pdqsortOrdered[int] -/
theorem e78 (args : List DV) (h : Heap) : fc D 78 args h = goRun (ev D) t78 args h := fc_full (by kernel_rfl) (by kernel_rfl) rfl args h
/-- math/bits.Len -/
theorem e79 (args : List DV) (h : Heap) : fc D 79 args h = callP D t79 h (args.mapM (resolve true h deepFuel)) := fc_pure (by kernel_rfl) (by kernel_rfl) rfl args h
/-- slices.BinarySearchFunc[[]broadside/api.ID,broadside/api.ID,broadside/api.ID] -/
theorem e83 (args : List DV) (h : Heap) : fc D 83 args h = callP D t83 h (args.mapM (resolve true h deepFuel)) := fc_pure (by kernel_rfl) (by kernel_rfl) rfl args h
/-- slices.BinarySearchFunc[[]broadside/api.Advert,broadside/api.Advert,broadside/api.ID] -/
theorem e84 (args : List DV) (h : Heap) : fc D 84 args h = callP D t84 h (args.mapM (resolve true h deepFuel)) := fc_pure (by kernel_rfl) (by kernel_rfl) rfl args h
/-- broadside/adverts.place$1 -/
theorem e85 (args : List DV) (h : Heap) : fc D 85 args h = callP D t85 h (args.mapM (resolve true h deepFuel)) := fc_pure (by kernel_rfl) (by kernel_rfl) rfl args h
/-- slices.rotateRight[broadside/api.Advert] -/
theorem e87 (args : List DV) (h : Heap) : fc D 87 args h = goRun (ev D) t87 args h := fc_full (by kernel_rfl) (by kernel_rfl) rfl args h
/-- slices.rotateRight[broadside/api.ID] -/
theorem e89 (args : List DV) (h : Heap) : fc D 89 args h = goRun (ev D) t89 args h := fc_full (by kernel_rfl) (by kernel_rfl) rfl args h
/-- broadside/broadsidekeep.texts -/
theorem e90 (args : List DV) (h : Heap) : fc D 90 args h = callP D t90 h (args.mapM (resolve true h deepFuel)) := fc_pure (by kernel_rfl) (by kernel_rfl) rfl args h
/-- slices.IndexFunc[[]broadside/api.Entry,broadside/api.Entry] -/
theorem e91 (args : List DV) (h : Heap) : fc D 91 args h = callP D t91 h (args.mapM (resolve true h deepFuel)) := fc_pure (by kernel_rfl) (by kernel_rfl) rfl args h
/-- cmp.Compare[int] -/
theorem e92 (args : List DV) (h : Heap) : fc D 92 args h = callP D t92 h (args.mapM (resolve true h deepFuel)) := fc_pure (by kernel_rfl) (by kernel_rfl) rfl args h
/-- slices.BinarySearchFunc[[]broadside/api.Entry,broadside/api.Entry,broadside/api.ID] -/
theorem e97 (args : List DV) (h : Heap) : fc D 97 args h = callP D t97 h (args.mapM (resolve true h deepFuel)) := fc_pure (by kernel_rfl) (by kernel_rfl) rfl args h
/-- broadside/subs.place$1 -/
theorem e98 (args : List DV) (h : Heap) : fc D 98 args h = callP D t98 h (args.mapM (resolve true h deepFuel)) := fc_pure (by kernel_rfl) (by kernel_rfl) rfl args h
/-- slices.rotateRight[broadside/api.Entry] -/
theorem e100 (args : List DV) (h : Heap) : fc D 100 args h = goRun (ev D) t100 args h := fc_full (by kernel_rfl) (by kernel_rfl) rfl args h
/-- strings.HasPrefix -/
theorem e101 (args : List DV) (h : Heap) : fc D 101 args h = callP D t101 h (args.mapM (resolve true h deepFuel)) := fc_pure (by kernel_rfl) (by kernel_rfl) rfl args h
/-- broadside/pred.Holds -/
theorem e102 (args : List DV) (h : Heap) : fc D 102 args h = callP D t102 h (args.mapM (resolve true h deepFuel)) := fc_pure (by kernel_rfl) (by kernel_rfl) rfl args h
/-- broadside/value.Text -/
theorem e103 (args : List DV) (h : Heap) : fc D 103 args h = callP D t103 h (args.mapM (resolve true h deepFuel)) := fc_pure (by kernel_rfl) (by kernel_rfl) rfl args h
/-- slices.insertionSortOrdered[int] -/
theorem e105 (args : List DV) (h : Heap) : fc D 105 args h = goRun (ev D) t105 args h := fc_full (by kernel_rfl) (by kernel_rfl) rfl args h
/-- slices.heapSortOrdered[int] -/
theorem e106 (args : List DV) (h : Heap) : fc D 106 args h = goRun (ev D) t106 args h := fc_full (by kernel_rfl) (by kernel_rfl) rfl args h
/-- slices.breakPatternsOrdered[int] -/
theorem e107 (args : List DV) (h : Heap) : fc D 107 args h = goRun (ev D) t107 args h := fc_full (by kernel_rfl) (by kernel_rfl) rfl args h
/-- slices.choosePivotOrdered[int] -/
theorem e108 (args : List DV) (h : Heap) : fc D 108 args h = goRun (ev D) t108 args h := fc_full (by kernel_rfl) (by kernel_rfl) rfl args h
/-- slices.reverseRangeOrdered[int] -/
theorem e109 (args : List DV) (h : Heap) : fc D 109 args h = goRun (ev D) t109 args h := fc_full (by kernel_rfl) (by kernel_rfl) rfl args h
/-- slices.partialInsertionSortOrdered[int] -/
theorem e110 (args : List DV) (h : Heap) : fc D 110 args h = goRun (ev D) t110 args h := fc_full (by kernel_rfl) (by kernel_rfl) rfl args h
/-- cmp.Less[int] -/
theorem e111 (args : List DV) (h : Heap) : fc D 111 args h = callP D t111 h (args.mapM (resolve true h deepFuel)) := fc_pure (by kernel_rfl) (by kernel_rfl) rfl args h
/-- slices.partitionEqualOrdered[int] -/
theorem e112 (args : List DV) (h : Heap) : fc D 112 args h = goRun (ev D) t112 args h := fc_full (by kernel_rfl) (by kernel_rfl) rfl args h
/-- slices.partitionOrdered[int] -/
theorem e113 (args : List DV) (h : Heap) : fc D 113 args h = goRun (ev D) t113 args h := fc_full (by kernel_rfl) (by kernel_rfl) rfl args h
/-- math/bits.Len32 -/
theorem e114 (args : List DV) (h : Heap) : fc D 114 args h = callP D t114 h (args.mapM (resolve true h deepFuel)) := fc_pure (by kernel_rfl) (by kernel_rfl) rfl args h
/-- math/bits.Len64 -/
theorem e115 (args : List DV) (h : Heap) : fc D 115 args h = callP D t115 h (args.mapM (resolve true h deepFuel)) := fc_pure (by kernel_rfl) (by kernel_rfl) rfl args h
/-- slices.rotateLeft[broadside/api.Advert] -/
theorem e116 (args : List DV) (h : Heap) : fc D 116 args h = goRun (ev D) t116 args h := fc_full (by kernel_rfl) (by kernel_rfl) rfl args h
/-- slices.rotateLeft[broadside/api.ID] -/
theorem e117 (args : List DV) (h : Heap) : fc D 117 args h = goRun (ev D) t117 args h := fc_full (by kernel_rfl) (by kernel_rfl) rfl args h
/-- cmp.isNaN[int] -/
theorem e118 (args : List DV) (h : Heap) : fc D 118 args h = callP D t118 h (args.mapM (resolve true h deepFuel)) := fc_pure (by kernel_rfl) (by kernel_rfl) rfl args h
/-- slices.rotateLeft[broadside/api.Entry] -/
theorem e121 (args : List DV) (h : Heap) : fc D 121 args h = goRun (ev D) t121 args h := fc_full (by kernel_rfl) (by kernel_rfl) rfl args h
/-- internal/stringslite.HasPrefix -/
theorem e122 (args : List DV) (h : Heap) : fc D 122 args h = callP D t122 h (args.mapM (resolve true h deepFuel)) := fc_pure (by kernel_rfl) (by kernel_rfl) rfl args h
/-- slices.siftDownOrdered[int] -/
theorem e123 (args : List DV) (h : Heap) : fc D 123 args h = goRun (ev D) t123 args h := fc_full (by kernel_rfl) (by kernel_rfl) rfl args h
/-- slices.nextPowerOfTwo -/
theorem e124 (args : List DV) (h : Heap) : fc D 124 args h = callP D t124 h (args.mapM (resolve true h deepFuel)) := fc_pure (by kernel_rfl) (by kernel_rfl) rfl args h
/-- (*slices.xorshift).Next -/
theorem e125 (args : List DV) (h : Heap) : fc D 125 args h = goRun (ev D) t125 args h := fc_full (by kernel_rfl) (by kernel_rfl) rfl args h
/-- slices.medianAdjacentOrdered[int] -/
theorem e126 (args : List DV) (h : Heap) : fc D 126 args h = goRun (ev D) t126 args h := fc_full (by kernel_rfl) (by kernel_rfl) rfl args h
/-- slices.medianOrdered[int] -/
theorem e127 (args : List DV) (h : Heap) : fc D 127 args h = goRun (ev D) t127 args h := fc_full (by kernel_rfl) (by kernel_rfl) rfl args h
/-- slices.Reverse[[]broadside/api.Advert,broadside/api.Advert] -/
theorem e128 (args : List DV) (h : Heap) : fc D 128 args h = goRun (ev D) t128 args h := fc_full (by kernel_rfl) (by kernel_rfl) rfl args h
/-- slices.Reverse[[]broadside/api.ID,broadside/api.ID] -/
theorem e129 (args : List DV) (h : Heap) : fc D 129 args h = goRun (ev D) t129 args h := fc_full (by kernel_rfl) (by kernel_rfl) rfl args h
/-- slices.Reverse[[]broadside/api.Entry,broadside/api.Entry] -/
theorem e130 (args : List DV) (h : Heap) : fc D 130 args h = goRun (ev D) t130 args h := fc_full (by kernel_rfl) (by kernel_rfl) rfl args h
/-- slices.order2Ordered[int] -/
theorem e131 (args : List DV) (h : Heap) : fc D 131 args h = callP D t131 h (args.mapM (resolve true h deepFuel)) := fc_pure (by kernel_rfl) (by kernel_rfl) rfl args h
theorem e99 (args : List DV) (h : Heap) : fc D 99 args h = overlapsHook h args := fc_hook (by kernel_rfl) args h
theorem e88 (args : List DV) (h : Heap) : fc D 88 args h = overlapsHook h args := fc_hook (by kernel_rfl) args h
theorem e86 (args : List DV) (h : Heap) : fc D 86 args h = overlapsHook h args := fc_hook (by kernel_rfl) args h
/-- slices.Clone[[]broadside/api.Own,broadside/api.Own] -/
theorem e82 (args : List DV) (h : Heap) : fc D 82 args h = cloneHook 88 3 40 h args := fc_hook (by kernel_rfl) args h
/-- slices.Clone[[]broadside/api.ID,broadside/api.ID] -/
theorem e81 (args : List DV) (h : Heap) : fc D 81 args h = cloneHook 35 2 16 h args := fc_hook (by kernel_rfl) args h
/-- slices.Clone[[]broadside/api.Advert,broadside/api.Advert] -/
theorem e80 (args : List DV) (h : Heap) : fc D 80 args h = cloneHook 41 4 48 h args := fc_hook (by kernel_rfl) args h
/-- slices.Clone[[]broadside/api.Entry,broadside/api.Entry] -/
theorem e62 (args : List DV) (h : Heap) : fc D 62 args h = cloneHook 53 7 72 h args := fc_hook (by kernel_rfl) args h
/-- slices.Clone[[]int,int] -/
theorem e27 (args : List DV) (h : Heap) : fc D 27 args h = cloneHook 3 1 8 h args := fc_hook (by kernel_rfl) args h

end Go.Dm.Tc
