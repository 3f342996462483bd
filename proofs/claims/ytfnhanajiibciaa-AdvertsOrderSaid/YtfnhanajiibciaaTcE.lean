/-
What a call of each function is (Tc). Written by program (wip/tools/table.lean.txt).
-/
import Derived.Test.YtfnhanajiibciaaTc
import Derived.Test.YtfnhanajiibciaaMm4
namespace Go.Dm.Tc
theorem e6 (args:List DV) (h:Heap):fc D 6 args h=callP D t6 h (args.mapM (resolve true h deepFuel)):=fc_pure (by kernel_rfl) (by kernel_rfl) rfl args h
theorem e7 (args:List DV) (h:Heap):fc D 7 args h=callP D t7 h (args.mapM (resolve true h deepFuel)):=fc_pure (by kernel_rfl) (by kernel_rfl) rfl args h
theorem e8 (args:List DV) (h:Heap):fc D 8 args h=callP D t8 h (args.mapM (resolve true h deepFuel)):=fc_pure (by kernel_rfl) (by kernel_rfl) rfl args h
theorem e9 (args:List DV) (h:Heap):fc D 9 args h=callZ D t9 (mapH freezeA h args):=fc_frz (by kernel_rfl) (by kernel_rfl) rfl args h
theorem e10 (args:List DV) (h:Heap):fc D 10 args h=callP D t10 h (args.mapM (resolve true h deepFuel)):=fc_pure (by kernel_rfl) (by kernel_rfl) rfl args h
theorem e11 (args:List DV) (h:Heap):fc D 11 args h=callP D t11 h (args.mapM (resolve true h deepFuel)):=fc_pure (by kernel_rfl) (by kernel_rfl) rfl args h
theorem e12 (args:List DV) (h:Heap):fc D 12 args h=callP D t12 h (args.mapM (resolve true h deepFuel)):=fc_pure (by kernel_rfl) (by kernel_rfl) rfl args h
theorem e13 (args:List DV) (h:Heap):fc D 13 args h=callZ D t13 (mapH freezeA h args):=fc_frz (by kernel_rfl) (by kernel_rfl) rfl args h
theorem e14 (args:List DV) (h:Heap):fc D 14 args h=callP D t14 h (args.mapM (resolve true h deepFuel)):=fc_pure (by kernel_rfl) (by kernel_rfl) rfl args h
theorem e15 (args:List DV) (h:Heap):fc D 15 args h=callP D t15 h (args.mapM (resolve true h deepFuel)):=fc_pure (by kernel_rfl) (by kernel_rfl) rfl args h
theorem e16 (args:List DV) (h:Heap):fc D 16 args h=callP D t16 h (args.mapM (resolve true h deepFuel)):=fc_pure (by kernel_rfl) (by kernel_rfl) rfl args h
theorem e26 (args:List DV) (h:Heap):fc D 26 args h=callP D t26 h (args.mapM (resolve true h deepFuel)):=fc_pure (by kernel_rfl) (by kernel_rfl) rfl args h
theorem e28 (args:List DV) (h:Heap):fc D 28 args h=goRun (ev D) t28 args h:=fc_full (by kernel_rfl) (by kernel_rfl) rfl args h
theorem e29 (args:List DV) (h:Heap):fc D 29 args h=goRun (ev D) t29 args h:=fc_full (by kernel_rfl) (by kernel_rfl) rfl args h
theorem e30 (args:List DV) (h:Heap):fc D 30 args h=goRun (ev D) t30 args h:=fc_full (by kernel_rfl) (by kernel_rfl) rfl args h
theorem e31 (args:List DV) (h:Heap):fc D 31 args h=callP D t31 h (args.mapM (resolve true h deepFuel)):=fc_pure (by kernel_rfl) (by kernel_rfl) rfl args h
theorem e32 (args:List DV) (h:Heap):fc D 32 args h=callP D t32 h (args.mapM (resolve true h deepFuel)):=fc_pure (by kernel_rfl) (by kernel_rfl) rfl args h
theorem e33 (args:List DV) (h:Heap):fc D 33 args h=modeRun (ev D) t33 args h:=fc_fn (by kernel_rfl) (by kernel_rfl) args h
theorem e34 (args:List DV) (h:Heap):fc D 34 args h=modeRun (ev D) t34 args h:=fc_fn (by kernel_rfl) (by kernel_rfl) args h
theorem e35 (args:List DV) (h:Heap):fc D 35 args h=callP D t35 h (args.mapM (resolve true h deepFuel)):=fc_pure (by kernel_rfl) (by kernel_rfl) rfl args h
theorem e36 (args:List DV) (h:Heap):fc D 36 args h=callP D t36 h (args.mapM (resolve true h deepFuel)):=fc_pure (by kernel_rfl) (by kernel_rfl) rfl args h
theorem e37 (args:List DV) (h:Heap):fc D 37 args h=callP D t37 h (args.mapM (resolve true h deepFuel)):=fc_pure (by kernel_rfl) (by kernel_rfl) rfl args h
theorem e38 (args:List DV) (h:Heap):fc D 38 args h=goRun (ev D) t38 args h:=fc_full (by kernel_rfl) (by kernel_rfl) rfl args h
theorem e39 (args:List DV) (h:Heap):fc D 39 args h=goRun (ev D) t39 args h:=fc_full (by kernel_rfl) (by kernel_rfl) rfl args h
theorem e40 (args:List DV) (h:Heap):fc D 40 args h=callP D t40 h (args.mapM (resolve true h deepFuel)):=fc_pure (by kernel_rfl) (by kernel_rfl) rfl args h
theorem e41 (args:List DV) (h:Heap):fc D 41 args h=callP D t41 h (args.mapM (resolve true h deepFuel)):=fc_pure (by kernel_rfl) (by kernel_rfl) rfl args h
theorem e42 (args:List DV) (h:Heap):fc D 42 args h=callP D t42 h (args.mapM (resolve true h deepFuel)):=fc_pure (by kernel_rfl) (by kernel_rfl) rfl args h
theorem e43 (args:List DV) (h:Heap):fc D 43 args h=callP D t43 h (args.mapM (resolve true h deepFuel)):=fc_pure (by kernel_rfl) (by kernel_rfl) rfl args h
theorem e44 (args:List DV) (h:Heap):fc D 44 args h=callP D t44 h (args.mapM (resolve true h deepFuel)):=fc_pure (by kernel_rfl) (by kernel_rfl) rfl args h
theorem e45 (args:List DV) (h:Heap):fc D 45 args h=callP D t45 h (args.mapM (resolve true h deepFuel)):=fc_pure (by kernel_rfl) (by kernel_rfl) rfl args h
theorem e46 (args:List DV) (h:Heap):fc D 46 args h=callP D t46 h (args.mapM (resolve true h deepFuel)):=fc_pure (by kernel_rfl) (by kernel_rfl) rfl args h
theorem e47 (args:List DV) (h:Heap):fc D 47 args h=callP D t47 h (args.mapM (resolve true h deepFuel)):=fc_pure (by kernel_rfl) (by kernel_rfl) rfl args h
theorem e48 (args:List DV) (h:Heap):fc D 48 args h=callP D t48 h (args.mapM (resolve true h deepFuel)):=fc_pure (by kernel_rfl) (by kernel_rfl) rfl args h
theorem e49 (args:List DV) (h:Heap):fc D 49 args h=callP D t49 h (args.mapM (resolve true h deepFuel)):=fc_pure (by kernel_rfl) (by kernel_rfl) rfl args h
theorem e50 (args:List DV) (h:Heap):fc D 50 args h=callP D t50 h (args.mapM (resolve true h deepFuel)):=fc_pure (by kernel_rfl) (by kernel_rfl) rfl args h
theorem e51 (args:List DV) (h:Heap):fc D 51 args h=callP D t51 h (args.mapM (resolve true h deepFuel)):=fc_pure (by kernel_rfl) (by kernel_rfl) rfl args h
theorem e52 (args:List DV) (h:Heap):fc D 52 args h=callP D t52 h (args.mapM (resolve true h deepFuel)):=fc_pure (by kernel_rfl) (by kernel_rfl) rfl args h
theorem e53 (args:List DV) (h:Heap):fc D 53 args h=callP D t53 h (args.mapM (resolve true h deepFuel)):=fc_pure (by kernel_rfl) (by kernel_rfl) rfl args h
theorem e54 (args:List DV) (h:Heap):fc D 54 args h=callP D t54 h (args.mapM (resolve true h deepFuel)):=fc_pure (by kernel_rfl) (by kernel_rfl) rfl args h
theorem e55 (args:List DV) (h:Heap):fc D 55 args h=callP D t55 h (args.mapM (resolve true h deepFuel)):=fc_pure (by kernel_rfl) (by kernel_rfl) rfl args h
theorem e56 (args:List DV) (h:Heap):fc D 56 args h=callP D t56 h (args.mapM (resolve true h deepFuel)):=fc_pure (by kernel_rfl) (by kernel_rfl) rfl args h
theorem e57 (args:List DV) (h:Heap):fc D 57 args h=callP D t57 h (args.mapM (resolve true h deepFuel)):=fc_pure (by kernel_rfl) (by kernel_rfl) rfl args h
theorem e58 (args:List DV) (h:Heap):fc D 58 args h=callP D t58 h (args.mapM (resolve true h deepFuel)):=fc_pure (by kernel_rfl) (by kernel_rfl) rfl args h
theorem e59 (args:List DV) (h:Heap):fc D 59 args h=callP D t59 h (args.mapM (resolve true h deepFuel)):=fc_pure (by kernel_rfl) (by kernel_rfl) rfl args h
theorem e60 (args:List DV) (h:Heap):fc D 60 args h=callP D t60 h (args.mapM (resolve true h deepFuel)):=fc_pure (by kernel_rfl) (by kernel_rfl) rfl args h
theorem e61 (args:List DV) (h:Heap):fc D 61 args h=callP D t61 h (args.mapM (resolve true h deepFuel)):=fc_pure (by kernel_rfl) (by kernel_rfl) rfl args h
theorem e69 (args:List DV) (h:Heap):fc D 69 args h=callP D t69 h (args.mapM (resolve true h deepFuel)):=fc_pure (by kernel_rfl) (by kernel_rfl) rfl args h
theorem e70 (args:List DV) (h:Heap):fc D 70 args h=callP D t70 h (args.mapM (resolve true h deepFuel)):=fc_pure (by kernel_rfl) (by kernel_rfl) rfl args h
theorem e71 (args:List DV) (h:Heap):fc D 71 args h=callP D t71 h (args.mapM (resolve true h deepFuel)):=fc_pure (by kernel_rfl) (by kernel_rfl) rfl args h
theorem e72 (args:List DV) (h:Heap):fc D 72 args h=callP D t72 h (args.mapM (resolve true h deepFuel)):=fc_pure (by kernel_rfl) (by kernel_rfl) rfl args h
theorem e73 (args:List DV) (h:Heap):fc D 73 args h=callP D t73 h (args.mapM (resolve true h deepFuel)):=fc_pure (by kernel_rfl) (by kernel_rfl) rfl args h
theorem e74 (args:List DV) (h:Heap):fc D 74 args h=callP D t74 h (args.mapM (resolve true h deepFuel)):=fc_pure (by kernel_rfl) (by kernel_rfl) rfl args h
theorem e75 (args:List DV) (h:Heap):fc D 75 args h=callP D t75 h (args.mapM (resolve true h deepFuel)):=fc_pure (by kernel_rfl) (by kernel_rfl) rfl args h
theorem e76 (args:List DV) (h:Heap):fc D 76 args h=callP D t76 h (args.mapM (resolve true h deepFuel)):=fc_pure (by kernel_rfl) (by kernel_rfl) rfl args h
theorem e77 (args:List DV) (h:Heap):fc D 77 args h=callP D t77 h (args.mapM (resolve true h deepFuel)):=fc_pure (by kernel_rfl) (by kernel_rfl) rfl args h
theorem e78 (args:List DV) (h:Heap):fc D 78 args h=goRun (ev D) t78 args h:=fc_full (by kernel_rfl) (by kernel_rfl) rfl args h
theorem e79 (args:List DV) (h:Heap):fc D 79 args h=callP D t79 h (args.mapM (resolve true h deepFuel)):=fc_pure (by kernel_rfl) (by kernel_rfl) rfl args h
theorem e83 (args:List DV) (h:Heap):fc D 83 args h=callP D t83 h (args.mapM (resolve true h deepFuel)):=fc_pure (by kernel_rfl) (by kernel_rfl) rfl args h
theorem e84 (args:List DV) (h:Heap):fc D 84 args h=callP D t84 h (args.mapM (resolve true h deepFuel)):=fc_pure (by kernel_rfl) (by kernel_rfl) rfl args h
theorem e85 (args:List DV) (h:Heap):fc D 85 args h=callP D t85 h (args.mapM (resolve true h deepFuel)):=fc_pure (by kernel_rfl) (by kernel_rfl) rfl args h
theorem e87 (args:List DV) (h:Heap):fc D 87 args h=goRun (ev D) t87 args h:=fc_full (by kernel_rfl) (by kernel_rfl) rfl args h
theorem e89 (args:List DV) (h:Heap):fc D 89 args h=goRun (ev D) t89 args h:=fc_full (by kernel_rfl) (by kernel_rfl) rfl args h
theorem e90 (args:List DV) (h:Heap):fc D 90 args h=callP D t90 h (args.mapM (resolve true h deepFuel)):=fc_pure (by kernel_rfl) (by kernel_rfl) rfl args h
theorem e91 (args:List DV) (h:Heap):fc D 91 args h=callP D t91 h (args.mapM (resolve true h deepFuel)):=fc_pure (by kernel_rfl) (by kernel_rfl) rfl args h
theorem e92 (args:List DV) (h:Heap):fc D 92 args h=callP D t92 h (args.mapM (resolve true h deepFuel)):=fc_pure (by kernel_rfl) (by kernel_rfl) rfl args h
theorem e93 (args:List DV) (h:Heap):fc D 93 args h=callP D t93 h (args.mapM (resolve true h deepFuel)):=fc_pure (by kernel_rfl) (by kernel_rfl) rfl args h
theorem e94 (args:List DV) (h:Heap):fc D 94 args h=callP D t94 h (args.mapM (resolve true h deepFuel)):=fc_pure (by kernel_rfl) (by kernel_rfl) rfl args h
theorem e95 (args:List DV) (h:Heap):fc D 95 args h=callP D t95 h (args.mapM (resolve true h deepFuel)):=fc_pure (by kernel_rfl) (by kernel_rfl) rfl args h
theorem e96 (args:List DV) (h:Heap):fc D 96 args h=callP D t96 h (args.mapM (resolve true h deepFuel)):=fc_pure (by kernel_rfl) (by kernel_rfl) rfl args h
theorem e104 (args:List DV) (h:Heap):fc D 104 args h=callP D t104 h (args.mapM (resolve true h deepFuel)):=fc_pure (by kernel_rfl) (by kernel_rfl) rfl args h
theorem e105 (args:List DV) (h:Heap):fc D 105 args h=goRun (ev D) t105 args h:=fc_full (by kernel_rfl) (by kernel_rfl) rfl args h
theorem e106 (args:List DV) (h:Heap):fc D 106 args h=goRun (ev D) t106 args h:=fc_full (by kernel_rfl) (by kernel_rfl) rfl args h
theorem e107 (args:List DV) (h:Heap):fc D 107 args h=goRun (ev D) t107 args h:=fc_full (by kernel_rfl) (by kernel_rfl) rfl args h
theorem e108 (args:List DV) (h:Heap):fc D 108 args h=goRun (ev D) t108 args h:=fc_full (by kernel_rfl) (by kernel_rfl) rfl args h
theorem e109 (args:List DV) (h:Heap):fc D 109 args h=goRun (ev D) t109 args h:=fc_full (by kernel_rfl) (by kernel_rfl) rfl args h
theorem e110 (args:List DV) (h:Heap):fc D 110 args h=goRun (ev D) t110 args h:=fc_full (by kernel_rfl) (by kernel_rfl) rfl args h
theorem e111 (args:List DV) (h:Heap):fc D 111 args h=callP D t111 h (args.mapM (resolve true h deepFuel)):=fc_pure (by kernel_rfl) (by kernel_rfl) rfl args h
theorem e112 (args:List DV) (h:Heap):fc D 112 args h=goRun (ev D) t112 args h:=fc_full (by kernel_rfl) (by kernel_rfl) rfl args h
theorem e113 (args:List DV) (h:Heap):fc D 113 args h=goRun (ev D) t113 args h:=fc_full (by kernel_rfl) (by kernel_rfl) rfl args h
theorem e114 (args:List DV) (h:Heap):fc D 114 args h=callP D t114 h (args.mapM (resolve true h deepFuel)):=fc_pure (by kernel_rfl) (by kernel_rfl) rfl args h
theorem e115 (args:List DV) (h:Heap):fc D 115 args h=callP D t115 h (args.mapM (resolve true h deepFuel)):=fc_pure (by kernel_rfl) (by kernel_rfl) rfl args h
theorem e116 (args:List DV) (h:Heap):fc D 116 args h=goRun (ev D) t116 args h:=fc_full (by kernel_rfl) (by kernel_rfl) rfl args h
theorem e117 (args:List DV) (h:Heap):fc D 117 args h=goRun (ev D) t117 args h:=fc_full (by kernel_rfl) (by kernel_rfl) rfl args h
theorem e118 (args:List DV) (h:Heap):fc D 118 args h=callP D t118 h (args.mapM (resolve true h deepFuel)):=fc_pure (by kernel_rfl) (by kernel_rfl) rfl args h
theorem e119 (args:List DV) (h:Heap):fc D 119 args h=callP D t119 h (args.mapM (resolve true h deepFuel)):=fc_pure (by kernel_rfl) (by kernel_rfl) rfl args h
theorem e120 (args:List DV) (h:Heap):fc D 120 args h=callP D t120 h (args.mapM (resolve true h deepFuel)):=fc_pure (by kernel_rfl) (by kernel_rfl) rfl args h
theorem e123 (args:List DV) (h:Heap):fc D 123 args h=goRun (ev D) t123 args h:=fc_full (by kernel_rfl) (by kernel_rfl) rfl args h
theorem e124 (args:List DV) (h:Heap):fc D 124 args h=callP D t124 h (args.mapM (resolve true h deepFuel)):=fc_pure (by kernel_rfl) (by kernel_rfl) rfl args h
theorem e125 (args:List DV) (h:Heap):fc D 125 args h=goRun (ev D) t125 args h:=fc_full (by kernel_rfl) (by kernel_rfl) rfl args h
theorem e126 (args:List DV) (h:Heap):fc D 126 args h=goRun (ev D) t126 args h:=fc_full (by kernel_rfl) (by kernel_rfl) rfl args h
theorem e127 (args:List DV) (h:Heap):fc D 127 args h=goRun (ev D) t127 args h:=fc_full (by kernel_rfl) (by kernel_rfl) rfl args h
theorem e128 (args:List DV) (h:Heap):fc D 128 args h=goRun (ev D) t128 args h:=fc_full (by kernel_rfl) (by kernel_rfl) rfl args h
theorem e129 (args:List DV) (h:Heap):fc D 129 args h=goRun (ev D) t129 args h:=fc_full (by kernel_rfl) (by kernel_rfl) rfl args h
theorem e131 (args:List DV) (h:Heap):fc D 131 args h=callP D t131 h (args.mapM (resolve true h deepFuel)):=fc_pure (by kernel_rfl) (by kernel_rfl) rfl args h
theorem e88 (args:List DV) (h:Heap):fc D 88 args h=overlapsHook h args:=fc_hook (by kernel_rfl) args h
theorem e86 (args:List DV) (h:Heap):fc D 86 args h=overlapsHook h args:=fc_hook (by kernel_rfl) args h
theorem e82 (args:List DV) (h:Heap):fc D 82 args h=cloneHook 88 3 40 h args:=fc_hook (by kernel_rfl) args h
theorem e62 (args:List DV) (h:Heap):fc D 62 args h=cloneHook 53 7 72 h args:=fc_hook (by kernel_rfl) args h
theorem e81 (args:List DV) (h:Heap):fc D 81 args h=cloneHook 35 2 16 h args:=fc_hook (by kernel_rfl) args h
theorem e80 (args:List DV) (h:Heap):fc D 80 args h=cloneHook 41 4 48 h args:=fc_hook (by kernel_rfl) args h
theorem e27 (args:List DV) (h:Heap):fc D 27 args h=cloneHook 3 1 8 h args:=fc_hook (by kernel_rfl) args h
end Go.Dm.Tc
