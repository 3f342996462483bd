/-
What a call of each function is (Tc). Written by program (wip/tools/table.lean.txt).
-/
import Derived.Test.YtfnhanajiibciaaGreatTc
import Derived.Test.YtfnhanajiibciaaGreatMm4
namespace Go.Dm.Tc
theorem e4 (args:List DV) (h:Heap):fc D 4 args h=callP D t4 h (args.mapM (resolve true h deepFuel)):=fc_pure (by kernel_rfl) (by kernel_rfl) rfl args h
theorem e15 (args:List DV) (h:Heap):fc D 15 args h=callP D t15 h (args.mapM (resolve true h deepFuel)):=fc_pure (by kernel_rfl) (by kernel_rfl) rfl args h
theorem e16 (args:List DV) (h:Heap):fc D 16 args h=callP D t16 h (args.mapM (resolve true h deepFuel)):=fc_pure (by kernel_rfl) (by kernel_rfl) rfl args h
theorem e17 (args:List DV) (h:Heap):fc D 17 args h=goRun (ev D) t17 args h:=fc_full (by kernel_rfl) (by kernel_rfl) rfl args h
theorem e18 (args:List DV) (h:Heap):fc D 18 args h=callP D t18 h (args.mapM (resolve true h deepFuel)):=fc_pure (by kernel_rfl) (by kernel_rfl) rfl args h
theorem e19 (args:List DV) (h:Heap):fc D 19 args h=callZ D t19 (mapH freezeA h args):=fc_frz (by kernel_rfl) (by kernel_rfl) rfl args h
theorem e20 (args:List DV) (h:Heap):fc D 20 args h=callZ D t20 (mapH freezeA h args):=fc_frz (by kernel_rfl) (by kernel_rfl) rfl args h
theorem e21 (args:List DV) (h:Heap):fc D 21 args h=callZ D t21 (mapH freezeA h args):=fc_frz (by kernel_rfl) (by kernel_rfl) rfl args h
theorem e22 (args:List DV) (h:Heap):fc D 22 args h=callZ D t22 (mapH freezeA h args):=fc_frz (by kernel_rfl) (by kernel_rfl) rfl args h
theorem e23 (args:List DV) (h:Heap):fc D 23 args h=callP D t23 h (args.mapM (resolve true h deepFuel)):=fc_pure (by kernel_rfl) (by kernel_rfl) rfl args h
theorem e24 (args:List DV) (h:Heap):fc D 24 args h=callP D t24 h (args.mapM (resolve true h deepFuel)):=fc_pure (by kernel_rfl) (by kernel_rfl) rfl args h
theorem e26 (args:List DV) (h:Heap):fc D 26 args h=callP D t26 h (args.mapM (resolve true h deepFuel)):=fc_pure (by kernel_rfl) (by kernel_rfl) rfl args h
theorem e27 (args:List DV) (h:Heap):fc D 27 args h=callP D t27 h (args.mapM (resolve true h deepFuel)):=fc_pure (by kernel_rfl) (by kernel_rfl) rfl args h
theorem e28 (args:List DV) (h:Heap):fc D 28 args h=callP D t28 h (args.mapM (resolve true h deepFuel)):=fc_pure (by kernel_rfl) (by kernel_rfl) rfl args h
theorem e29 (args:List DV) (h:Heap):fc D 29 args h=callP D t29 h (args.mapM (resolve true h deepFuel)):=fc_pure (by kernel_rfl) (by kernel_rfl) rfl args h
theorem e30 (args:List DV) (h:Heap):fc D 30 args h=callP D t30 h (args.mapM (resolve true h deepFuel)):=fc_pure (by kernel_rfl) (by kernel_rfl) rfl args h
theorem e36 (args:List DV) (h:Heap):fc D 36 args h=callP D t36 h (args.mapM (resolve true h deepFuel)):=fc_pure (by kernel_rfl) (by kernel_rfl) rfl args h
theorem e37 (args:List DV) (h:Heap):fc D 37 args h=callZ D t37 (mapH freezeA h args):=fc_frz (by kernel_rfl) (by kernel_rfl) rfl args h
theorem e38 (args:List DV) (h:Heap):fc D 38 args h=callZ D t38 (mapH freezeA h args):=fc_frz (by kernel_rfl) (by kernel_rfl) rfl args h
theorem e46 (args:List DV) (h:Heap):fc D 46 args h=callZ D t46 (mapH freezeA h args):=fc_frz (by kernel_rfl) (by kernel_rfl) rfl args h
theorem e56 (args:List DV) (h:Heap):fc D 56 args h=callP D t56 h (args.mapM (resolve true h deepFuel)):=fc_pure (by kernel_rfl) (by kernel_rfl) rfl args h
theorem e57 (args:List DV) (h:Heap):fc D 57 args h=callP D t57 h (args.mapM (resolve true h deepFuel)):=fc_pure (by kernel_rfl) (by kernel_rfl) rfl args h
theorem e58 (args:List DV) (h:Heap):fc D 58 args h=callZ D t58 (mapH freezeA h args):=fc_frz (by kernel_rfl) (by kernel_rfl) rfl args h
theorem e59 (args:List DV) (h:Heap):fc D 59 args h=callZ D t59 (mapH freezeA h args):=fc_frz (by kernel_rfl) (by kernel_rfl) rfl args h
theorem e61 (args:List DV) (h:Heap):fc D 61 args h=callZ D t61 (mapH freezeA h args):=fc_frz (by kernel_rfl) (by kernel_rfl) rfl args h
theorem e62 (args:List DV) (h:Heap):fc D 62 args h=callZ D t62 (mapH freezeA h args):=fc_frz (by kernel_rfl) (by kernel_rfl) rfl args h
theorem e63 (args:List DV) (h:Heap):fc D 63 args h=callZ D t63 (mapH freezeA h args):=fc_frz (by kernel_rfl) (by kernel_rfl) rfl args h
theorem e65 (args:List DV) (h:Heap):fc D 65 args h=goRun (ev D) t65 args h:=fc_full (by kernel_rfl) (by kernel_rfl) rfl args h
theorem e66 (args:List DV) (h:Heap):fc D 66 args h=goRun (ev D) t66 args h:=fc_full (by kernel_rfl) (by kernel_rfl) rfl args h
theorem e67 (args:List DV) (h:Heap):fc D 67 args h=callP D t67 h (args.mapM (resolve true h deepFuel)):=fc_pure (by kernel_rfl) (by kernel_rfl) rfl args h
theorem e68 (args:List DV) (h:Heap):fc D 68 args h=callP D t68 h (args.mapM (resolve true h deepFuel)):=fc_pure (by kernel_rfl) (by kernel_rfl) rfl args h
theorem e69 (args:List DV) (h:Heap):fc D 69 args h=callP D t69 h (args.mapM (resolve true h deepFuel)):=fc_pure (by kernel_rfl) (by kernel_rfl) rfl args h
theorem e70 (args:List DV) (h:Heap):fc D 70 args h=goRun (ev D) t70 args h:=fc_full (by kernel_rfl) (by kernel_rfl) rfl args h
theorem e71 (args:List DV) (h:Heap):fc D 71 args h=callP D t71 h (args.mapM (resolve true h deepFuel)):=fc_pure (by kernel_rfl) (by kernel_rfl) rfl args h
theorem e72 (args:List DV) (h:Heap):fc D 72 args h=callP D t72 h (args.mapM (resolve true h deepFuel)):=fc_pure (by kernel_rfl) (by kernel_rfl) rfl args h
theorem e73 (args:List DV) (h:Heap):fc D 73 args h=modeRun (ev D) t73 args h:=fc_fn (by kernel_rfl) (by kernel_rfl) args h
theorem e74 (args:List DV) (h:Heap):fc D 74 args h=modeRun (ev D) t74 args h:=fc_fn (by kernel_rfl) (by kernel_rfl) args h
theorem e75 (args:List DV) (h:Heap):fc D 75 args h=callP D t75 h (args.mapM (resolve true h deepFuel)):=fc_pure (by kernel_rfl) (by kernel_rfl) rfl args h
theorem e76 (args:List DV) (h:Heap):fc D 76 args h=callP D t76 h (args.mapM (resolve true h deepFuel)):=fc_pure (by kernel_rfl) (by kernel_rfl) rfl args h
theorem e77 (args:List DV) (h:Heap):fc D 77 args h=goRun (ev D) t77 args h:=fc_full (by kernel_rfl) (by kernel_rfl) rfl args h
theorem e78 (args:List DV) (h:Heap):fc D 78 args h=goRun (ev D) t78 args h:=fc_full (by kernel_rfl) (by kernel_rfl) rfl args h
theorem e79 (args:List DV) (h:Heap):fc D 79 args h=callP D t79 h (args.mapM (resolve true h deepFuel)):=fc_pure (by kernel_rfl) (by kernel_rfl) rfl args h
theorem e80 (args:List DV) (h:Heap):fc D 80 args h=callP D t80 h (args.mapM (resolve true h deepFuel)):=fc_pure (by kernel_rfl) (by kernel_rfl) rfl args h
theorem e82 (args:List DV) (h:Heap):fc D 82 args h=callP D t82 h (args.mapM (resolve true h deepFuel)):=fc_pure (by kernel_rfl) (by kernel_rfl) rfl args h
theorem e83 (args:List DV) (h:Heap):fc D 83 args h=callP D t83 h (args.mapM (resolve true h deepFuel)):=fc_pure (by kernel_rfl) (by kernel_rfl) rfl args h
theorem e84 (args:List DV) (h:Heap):fc D 84 args h=callP D t84 h (args.mapM (resolve true h deepFuel)):=fc_pure (by kernel_rfl) (by kernel_rfl) rfl args h
theorem e85 (args:List DV) (h:Heap):fc D 85 args h=callP D t85 h (args.mapM (resolve true h deepFuel)):=fc_pure (by kernel_rfl) (by kernel_rfl) rfl args h
theorem e86 (args:List DV) (h:Heap):fc D 86 args h=callP D t86 h (args.mapM (resolve true h deepFuel)):=fc_pure (by kernel_rfl) (by kernel_rfl) rfl args h
theorem e87 (args:List DV) (h:Heap):fc D 87 args h=callP D t87 h (args.mapM (resolve true h deepFuel)):=fc_pure (by kernel_rfl) (by kernel_rfl) rfl args h
theorem e88 (args:List DV) (h:Heap):fc D 88 args h=callP D t88 h (args.mapM (resolve true h deepFuel)):=fc_pure (by kernel_rfl) (by kernel_rfl) rfl args h
theorem e89 (args:List DV) (h:Heap):fc D 89 args h=callP D t89 h (args.mapM (resolve true h deepFuel)):=fc_pure (by kernel_rfl) (by kernel_rfl) rfl args h
theorem e90 (args:List DV) (h:Heap):fc D 90 args h=callP D t90 h (args.mapM (resolve true h deepFuel)):=fc_pure (by kernel_rfl) (by kernel_rfl) rfl args h
theorem e91 (args:List DV) (h:Heap):fc D 91 args h=callP D t91 h (args.mapM (resolve true h deepFuel)):=fc_pure (by kernel_rfl) (by kernel_rfl) rfl args h
theorem e92 (args:List DV) (h:Heap):fc D 92 args h=callP D t92 h (args.mapM (resolve true h deepFuel)):=fc_pure (by kernel_rfl) (by kernel_rfl) rfl args h
theorem e93 (args:List DV) (h:Heap):fc D 93 args h=callP D t93 h (args.mapM (resolve true h deepFuel)):=fc_pure (by kernel_rfl) (by kernel_rfl) rfl args h
theorem e94 (args:List DV) (h:Heap):fc D 94 args h=callP D t94 h (args.mapM (resolve true h deepFuel)):=fc_pure (by kernel_rfl) (by kernel_rfl) rfl args h
theorem e95 (args:List DV) (h:Heap):fc D 95 args h=callP D t95 h (args.mapM (resolve true h deepFuel)):=fc_pure (by kernel_rfl) (by kernel_rfl) rfl args h
theorem e96 (args:List DV) (h:Heap):fc D 96 args h=callP D t96 h (args.mapM (resolve true h deepFuel)):=fc_pure (by kernel_rfl) (by kernel_rfl) rfl args h
theorem e97 (args:List DV) (h:Heap):fc D 97 args h=callP D t97 h (args.mapM (resolve true h deepFuel)):=fc_pure (by kernel_rfl) (by kernel_rfl) rfl args h
theorem e98 (args:List DV) (h:Heap):fc D 98 args h=callP D t98 h (args.mapM (resolve true h deepFuel)):=fc_pure (by kernel_rfl) (by kernel_rfl) rfl args h
theorem e99 (args:List DV) (h:Heap):fc D 99 args h=callP D t99 h (args.mapM (resolve true h deepFuel)):=fc_pure (by kernel_rfl) (by kernel_rfl) rfl args h
theorem e100 (args:List DV) (h:Heap):fc D 100 args h=callP D t100 h (args.mapM (resolve true h deepFuel)):=fc_pure (by kernel_rfl) (by kernel_rfl) rfl args h
theorem e101 (args:List DV) (h:Heap):fc D 101 args h=callP D t101 h (args.mapM (resolve true h deepFuel)):=fc_pure (by kernel_rfl) (by kernel_rfl) rfl args h
theorem e102 (args:List DV) (h:Heap):fc D 102 args h=callP D t102 h (args.mapM (resolve true h deepFuel)):=fc_pure (by kernel_rfl) (by kernel_rfl) rfl args h
theorem e103 (args:List DV) (h:Heap):fc D 103 args h=callP D t103 h (args.mapM (resolve true h deepFuel)):=fc_pure (by kernel_rfl) (by kernel_rfl) rfl args h
theorem e104 (args:List DV) (h:Heap):fc D 104 args h=callP D t104 h (args.mapM (resolve true h deepFuel)):=fc_pure (by kernel_rfl) (by kernel_rfl) rfl args h
theorem e105 (args:List DV) (h:Heap):fc D 105 args h=callP D t105 h (args.mapM (resolve true h deepFuel)):=fc_pure (by kernel_rfl) (by kernel_rfl) rfl args h
theorem e106 (args:List DV) (h:Heap):fc D 106 args h=callP D t106 h (args.mapM (resolve true h deepFuel)):=fc_pure (by kernel_rfl) (by kernel_rfl) rfl args h
theorem e107 (args:List DV) (h:Heap):fc D 107 args h=callP D t107 h (args.mapM (resolve true h deepFuel)):=fc_pure (by kernel_rfl) (by kernel_rfl) rfl args h
theorem e108 (args:List DV) (h:Heap):fc D 108 args h=callP D t108 h (args.mapM (resolve true h deepFuel)):=fc_pure (by kernel_rfl) (by kernel_rfl) rfl args h
theorem e109 (args:List DV) (h:Heap):fc D 109 args h=callP D t109 h (args.mapM (resolve true h deepFuel)):=fc_pure (by kernel_rfl) (by kernel_rfl) rfl args h
theorem e110 (args:List DV) (h:Heap):fc D 110 args h=callP D t110 h (args.mapM (resolve true h deepFuel)):=fc_pure (by kernel_rfl) (by kernel_rfl) rfl args h
theorem e111 (args:List DV) (h:Heap):fc D 111 args h=callZ D t111 (mapH freezeA h args):=fc_frz (by kernel_rfl) (by kernel_rfl) rfl args h
theorem e118 (args:List DV) (h:Heap):fc D 118 args h=callP D t118 h (args.mapM (resolve true h deepFuel)):=fc_pure (by kernel_rfl) (by kernel_rfl) rfl args h
theorem e119 (args:List DV) (h:Heap):fc D 119 args h=callP D t119 h (args.mapM (resolve true h deepFuel)):=fc_pure (by kernel_rfl) (by kernel_rfl) rfl args h
theorem e121 (args:List DV) (h:Heap):fc D 121 args h=callP D t121 h (args.mapM (resolve true h deepFuel)):=fc_pure (by kernel_rfl) (by kernel_rfl) rfl args h
theorem e122 (args:List DV) (h:Heap):fc D 122 args h=callP D t122 h (args.mapM (resolve true h deepFuel)):=fc_pure (by kernel_rfl) (by kernel_rfl) rfl args h
theorem e131 (args:List DV) (h:Heap):fc D 131 args h=goRun (ev D) t131 args h:=fc_full (by kernel_rfl) (by kernel_rfl) rfl args h
theorem e133 (args:List DV) (h:Heap):fc D 133 args h=callZ D t133 (mapH freezeA h args):=fc_frz (by kernel_rfl) (by kernel_rfl) rfl args h
theorem e134 (args:List DV) (h:Heap):fc D 134 args h=goRun (ev D) t134 args h:=fc_full (by kernel_rfl) (by kernel_rfl) rfl args h
theorem e135 (args:List DV) (h:Heap):fc D 135 args h=callP D t135 h (args.mapM (resolve true h deepFuel)):=fc_pure (by kernel_rfl) (by kernel_rfl) rfl args h
theorem e136 (args:List DV) (h:Heap):fc D 136 args h=callP D t136 h (args.mapM (resolve true h deepFuel)):=fc_pure (by kernel_rfl) (by kernel_rfl) rfl args h
theorem e139 (args:List DV) (h:Heap):fc D 139 args h=callP D t139 h (args.mapM (resolve true h deepFuel)):=fc_pure (by kernel_rfl) (by kernel_rfl) rfl args h
theorem e140 (args:List DV) (h:Heap):fc D 140 args h=callP D t140 h (args.mapM (resolve true h deepFuel)):=fc_pure (by kernel_rfl) (by kernel_rfl) rfl args h
theorem e141 (args:List DV) (h:Heap):fc D 141 args h=callP D t141 h (args.mapM (resolve true h deepFuel)):=fc_pure (by kernel_rfl) (by kernel_rfl) rfl args h
theorem e143 (args:List DV) (h:Heap):fc D 143 args h=goRun (ev D) t143 args h:=fc_full (by kernel_rfl) (by kernel_rfl) rfl args h
theorem e145 (args:List DV) (h:Heap):fc D 145 args h=goRun (ev D) t145 args h:=fc_full (by kernel_rfl) (by kernel_rfl) rfl args h
theorem e146 (args:List DV) (h:Heap):fc D 146 args h=callP D t146 h (args.mapM (resolve true h deepFuel)):=fc_pure (by kernel_rfl) (by kernel_rfl) rfl args h
theorem e147 (args:List DV) (h:Heap):fc D 147 args h=callP D t147 h (args.mapM (resolve true h deepFuel)):=fc_pure (by kernel_rfl) (by kernel_rfl) rfl args h
theorem e148 (args:List DV) (h:Heap):fc D 148 args h=callP D t148 h (args.mapM (resolve true h deepFuel)):=fc_pure (by kernel_rfl) (by kernel_rfl) rfl args h
theorem e149 (args:List DV) (h:Heap):fc D 149 args h=callP D t149 h (args.mapM (resolve true h deepFuel)):=fc_pure (by kernel_rfl) (by kernel_rfl) rfl args h
theorem e150 (args:List DV) (h:Heap):fc D 150 args h=callP D t150 h (args.mapM (resolve true h deepFuel)):=fc_pure (by kernel_rfl) (by kernel_rfl) rfl args h
theorem e151 (args:List DV) (h:Heap):fc D 151 args h=callP D t151 h (args.mapM (resolve true h deepFuel)):=fc_pure (by kernel_rfl) (by kernel_rfl) rfl args h
theorem e152 (args:List DV) (h:Heap):fc D 152 args h=callP D t152 h (args.mapM (resolve true h deepFuel)):=fc_pure (by kernel_rfl) (by kernel_rfl) rfl args h
theorem e153 (args:List DV) (h:Heap):fc D 153 args h=callP D t153 h (args.mapM (resolve true h deepFuel)):=fc_pure (by kernel_rfl) (by kernel_rfl) rfl args h
theorem e158 (args:List DV) (h:Heap):fc D 158 args h=callP D t158 h (args.mapM (resolve true h deepFuel)):=fc_pure (by kernel_rfl) (by kernel_rfl) rfl args h
theorem e159 (args:List DV) (h:Heap):fc D 159 args h=callP D t159 h (args.mapM (resolve true h deepFuel)):=fc_pure (by kernel_rfl) (by kernel_rfl) rfl args h
theorem e170 (args:List DV) (h:Heap):fc D 170 args h=goRun (ev D) t170 args h:=fc_full (by kernel_rfl) (by kernel_rfl) rfl args h
theorem e171 (args:List DV) (h:Heap):fc D 171 args h=goRun (ev D) t171 args h:=fc_full (by kernel_rfl) (by kernel_rfl) rfl args h
theorem e172 (args:List DV) (h:Heap):fc D 172 args h=goRun (ev D) t172 args h:=fc_full (by kernel_rfl) (by kernel_rfl) rfl args h
theorem e173 (args:List DV) (h:Heap):fc D 173 args h=goRun (ev D) t173 args h:=fc_full (by kernel_rfl) (by kernel_rfl) rfl args h
theorem e174 (args:List DV) (h:Heap):fc D 174 args h=goRun (ev D) t174 args h:=fc_full (by kernel_rfl) (by kernel_rfl) rfl args h
theorem e175 (args:List DV) (h:Heap):fc D 175 args h=goRun (ev D) t175 args h:=fc_full (by kernel_rfl) (by kernel_rfl) rfl args h
theorem e176 (args:List DV) (h:Heap):fc D 176 args h=callP D t176 h (args.mapM (resolve true h deepFuel)):=fc_pure (by kernel_rfl) (by kernel_rfl) rfl args h
theorem e177 (args:List DV) (h:Heap):fc D 177 args h=goRun (ev D) t177 args h:=fc_full (by kernel_rfl) (by kernel_rfl) rfl args h
theorem e178 (args:List DV) (h:Heap):fc D 178 args h=goRun (ev D) t178 args h:=fc_full (by kernel_rfl) (by kernel_rfl) rfl args h
theorem e179 (args:List DV) (h:Heap):fc D 179 args h=callP D t179 h (args.mapM (resolve true h deepFuel)):=fc_pure (by kernel_rfl) (by kernel_rfl) rfl args h
theorem e180 (args:List DV) (h:Heap):fc D 180 args h=callP D t180 h (args.mapM (resolve true h deepFuel)):=fc_pure (by kernel_rfl) (by kernel_rfl) rfl args h
theorem e181 (args:List DV) (h:Heap):fc D 181 args h=goRun (ev D) t181 args h:=fc_full (by kernel_rfl) (by kernel_rfl) rfl args h
theorem e182 (args:List DV) (h:Heap):fc D 182 args h=goRun (ev D) t182 args h:=fc_full (by kernel_rfl) (by kernel_rfl) rfl args h
theorem e183 (args:List DV) (h:Heap):fc D 183 args h=callP D t183 h (args.mapM (resolve true h deepFuel)):=fc_pure (by kernel_rfl) (by kernel_rfl) rfl args h
theorem e184 (args:List DV) (h:Heap):fc D 184 args h=callP D t184 h (args.mapM (resolve true h deepFuel)):=fc_pure (by kernel_rfl) (by kernel_rfl) rfl args h
theorem e185 (args:List DV) (h:Heap):fc D 185 args h=callP D t185 h (args.mapM (resolve true h deepFuel)):=fc_pure (by kernel_rfl) (by kernel_rfl) rfl args h
theorem e186 (args:List DV) (h:Heap):fc D 186 args h=callP D t186 h (args.mapM (resolve true h deepFuel)):=fc_pure (by kernel_rfl) (by kernel_rfl) rfl args h
theorem e188 (args:List DV) (h:Heap):fc D 188 args h=callP D t188 h (args.mapM (resolve true h deepFuel)):=fc_pure (by kernel_rfl) (by kernel_rfl) rfl args h
theorem e189 (args:List DV) (h:Heap):fc D 189 args h=callP D t189 h (args.mapM (resolve true h deepFuel)):=fc_pure (by kernel_rfl) (by kernel_rfl) rfl args h
theorem e199 (args:List DV) (h:Heap):fc D 199 args h=goRun (ev D) t199 args h:=fc_full (by kernel_rfl) (by kernel_rfl) rfl args h
theorem e200 (args:List DV) (h:Heap):fc D 200 args h=callP D t200 h (args.mapM (resolve true h deepFuel)):=fc_pure (by kernel_rfl) (by kernel_rfl) rfl args h
theorem e201 (args:List DV) (h:Heap):fc D 201 args h=goRun (ev D) t201 args h:=fc_full (by kernel_rfl) (by kernel_rfl) rfl args h
theorem e202 (args:List DV) (h:Heap):fc D 202 args h=goRun (ev D) t202 args h:=fc_full (by kernel_rfl) (by kernel_rfl) rfl args h
theorem e203 (args:List DV) (h:Heap):fc D 203 args h=goRun (ev D) t203 args h:=fc_full (by kernel_rfl) (by kernel_rfl) rfl args h
theorem e204 (args:List DV) (h:Heap):fc D 204 args h=goRun (ev D) t204 args h:=fc_full (by kernel_rfl) (by kernel_rfl) rfl args h
theorem e205 (args:List DV) (h:Heap):fc D 205 args h=goRun (ev D) t205 args h:=fc_full (by kernel_rfl) (by kernel_rfl) rfl args h
theorem e206 (args:List DV) (h:Heap):fc D 206 args h=callP D t206 h (args.mapM (resolve true h deepFuel)):=fc_pure (by kernel_rfl) (by kernel_rfl) rfl args h
theorem e212 (args:List DV) (h:Heap):fc D 212 args h=callP D t212 h (args.mapM (resolve true h deepFuel)):=fc_pure (by kernel_rfl) (by kernel_rfl) rfl args h
theorem e144 (args:List DV) (h:Heap):fc D 144 args h=overlapsHook h args:=fc_hook (by kernel_rfl) args h
theorem e142 (args:List DV) (h:Heap):fc D 142 args h=overlapsHook h args:=fc_hook (by kernel_rfl) args h
theorem e126 (args:List DV) (h:Heap):fc D 126 args h=cloneHook 60 3 40 h args:=fc_hook (by kernel_rfl) args h
theorem e112 (args:List DV) (h:Heap):fc D 112 args h=cloneHook 58 7 72 h args:=fc_hook (by kernel_rfl) args h
theorem e138 (args:List DV) (h:Heap):fc D 138 args h=cloneHook 37 2 16 h args:=fc_hook (by kernel_rfl) args h
theorem e137 (args:List DV) (h:Heap):fc D 137 args h=cloneHook 42 4 48 h args:=fc_hook (by kernel_rfl) args h
theorem e64 (args:List DV) (h:Heap):fc D 64 args h=cloneHook 3 1 8 h args:=fc_hook (by kernel_rfl) args h
end Go.Dm.Tc
