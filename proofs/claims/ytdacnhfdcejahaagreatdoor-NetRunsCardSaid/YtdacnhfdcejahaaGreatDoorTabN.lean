/-
The table of functions (TabN). Written by program (wip/tools/table.lean.txt).
-/
import Derived.Test.YtdacnhfdcejahaaGreatDoorTabN0
import Derived.Test.YtdacnhfdcejahaaGreatDoorTabN1
import Derived.Test.YtdacnhfdcejahaaGreatDoorTabN2
import Derived.Test.YtdacnhfdcejahaaGreatDoorTabN3
import Derived.Test.YtdacnhfdcejahaaGreatDoorTabN4
import Derived.Test.YtdacnhfdcejahaaGreatDoorAsD
namespace Go.Dm.TabN
open Go.Proofs

def tab : List (Nat × DFunc) := [(5, t5), (12, t12), (13, t13), (14, t14), (15, t15), (22, t22), (23, t23), (24, t24), (25, t25), (26, t26), (27, t27), (41, t41), (47, t47), (48, t48), (50, t50), (51, t51), (53, t53), (63, t63), (64, t64), (65, t65), (66, t66), (67, t67), (68, t68), (69, t69), (70, t70), (71, t71), (72, t72), (73, t73), (74, t74), (82, t82), (89, t89), (90, t90), (91, t91), (92, t92), (93, t93), (94, t94), (103, t103), (104, t104), (105, t105), (106, t106), (107, t107), (124, t124), (131, t131), (137, t137), (142, t142), (148, t148), (151, t151), (152, t152), (154, t154), (155, t155), (156, t156), (157, t157), (158, t158), (159, t159), (160, t160), (161, t161), (164, t164), (165, t165), (166, t166), (172, t172), (173, t173), (174, t174), (175, t175), (177, t177), (181, t181), (194, t194), (195, t195), (196, t196), (197, t197), (198, t198), (199, t199), (200, t200), (201, t201), (202, t202), (203, t203), (204, t204), (205, t205), (206, t206), (212, t212), (214, t214), (215, t215), (217, t217), (218, t218), (219, t219), (225, t225), (232, t232), (233, t233), (234, t234), (235, t235), (236, t236), (237, t237), (242, t242), (243, t243), (250, t250), (251, t251), (252, t252), (253, t253), (254, t254), (255, t255), (256, t256), (257, t257), (258, t258), (259, t259), (260, t260), (261, t261), (262, t262), (266, t266), (275, t275), (279, t279), (280, t280), (281, t281), (282, t282), (283, t283), (284, t284), (285, t285), (286, t286), (287, t287), (289, t289), (292, t292), (296, t296), (297, t297), (298, t298), (300, t300), (301, t301), (302, t302), (304, t304), (305, t305), (312, t312), (313, t313), (314, t314), (315, t315), (316, t316), (318, t318), (319, t319), (324, t324), (325, t325), (326, t326), (327, t327), (328, t328), (329, t329), (330, t330), (340, t340), (342, t342), (343, t343), (348, t348), (349, t349), (350, t350), (352, t352)]

set_option maxRecDepth 100000 in
theorem tab_ok : TabOk Tryz.prog tab :=
  .cons (fn := Tryz.f5) (by kernel_rfl) c5 <|
  .cons (fn := Tryz.f12) (by kernel_rfl) c12 <|
  .cons (fn := Tryz.f13) (by kernel_rfl) c13 <|
  .cons (fn := Tryz.f14) (by kernel_rfl) c14 <|
  .cons (fn := Tryz.f15) (by kernel_rfl) c15 <|
  .cons (fn := Tryz.f22) (by kernel_rfl) c22 <|
  .cons (fn := Tryz.f23) (by kernel_rfl) c23 <|
  .cons (fn := Tryz.f24) (by kernel_rfl) c24 <|
  .cons (fn := Tryz.f25) (by kernel_rfl) c25 <|
  .cons (fn := Tryz.f26) (by kernel_rfl) c26 <|
  .cons (fn := Tryz.f27) (by kernel_rfl) c27 <|
  .cons (fn := Tryz.f41) (by kernel_rfl) c41 <|
  .cons (fn := Tryz.f47) (by kernel_rfl) c47 <|
  .cons (fn := Tryz.f48) (by kernel_rfl) c48 <|
  .cons (fn := Tryz.f50) (by kernel_rfl) c50 <|
  .cons (fn := Tryz.f51) (by kernel_rfl) c51 <|
  .cons (fn := Tryz.f53) (by kernel_rfl) c53 <|
  .cons (fn := Tryz.f63) (by kernel_rfl) c63 <|
  .cons (fn := Tryz.f64) (by kernel_rfl) c64 <|
  .cons (fn := Tryz.f65) (by kernel_rfl) c65 <|
  .cons (fn := Tryz.f66) (by kernel_rfl) c66 <|
  .cons (fn := Tryz.f67) (by kernel_rfl) c67 <|
  .cons (fn := Tryz.f68) (by kernel_rfl) c68 <|
  .cons (fn := Tryz.f69) (by kernel_rfl) c69 <|
  .cons (fn := Tryz.f70) (by kernel_rfl) c70 <|
  .cons (fn := Tryz.f71) (by kernel_rfl) c71 <|
  .cons (fn := Tryz.f72) (by kernel_rfl) c72 <|
  .cons (fn := Tryz.f73) (by kernel_rfl) c73 <|
  .cons (fn := Tryz.f74) (by kernel_rfl) c74 <|
  .cons (fn := Tryz.f82) (by kernel_rfl) c82 <|
  .cons (fn := Tryz.f89) (by kernel_rfl) c89 <|
  .cons (fn := Tryz.f90) (by kernel_rfl) c90 <|
  .cons (fn := Tryz.f91) (by kernel_rfl) c91 <|
  .cons (fn := Tryz.f92) (by kernel_rfl) c92 <|
  .cons (fn := Tryz.f93) (by kernel_rfl) c93 <|
  .cons (fn := Tryz.f94) (by kernel_rfl) c94 <|
  .cons (fn := Tryz.f103) (by kernel_rfl) c103 <|
  .cons (fn := Tryz.f104) (by kernel_rfl) c104 <|
  .cons (fn := Tryz.f105) (by kernel_rfl) c105 <|
  .cons (fn := Tryz.f106) (by kernel_rfl) c106 <|
  .cons (fn := Tryz.f107) (by kernel_rfl) c107 <|
  .cons (fn := Tryz.f124) (by kernel_rfl) c124 <|
  .cons (fn := Tryz.f131) (by kernel_rfl) c131 <|
  .cons (fn := Tryz.f137) (by kernel_rfl) c137 <|
  .cons (fn := Tryz.f142) (by kernel_rfl) c142 <|
  .cons (fn := Tryz.f148) (by kernel_rfl) c148 <|
  .cons (fn := Tryz.f151) (by kernel_rfl) c151 <|
  .cons (fn := Tryz.f152) (by kernel_rfl) c152 <|
  .cons (fn := Tryz.f154) (by kernel_rfl) c154 <|
  .cons (fn := Tryz.f155) (by kernel_rfl) c155 <|
  .cons (fn := Tryz.f156) (by kernel_rfl) c156 <|
  .cons (fn := Tryz.f157) (by kernel_rfl) c157 <|
  .cons (fn := Tryz.f158) (by kernel_rfl) c158 <|
  .cons (fn := Tryz.f159) (by kernel_rfl) c159 <|
  .cons (fn := Tryz.f160) (by kernel_rfl) c160 <|
  .cons (fn := Tryz.f161) (by kernel_rfl) c161 <|
  .cons (fn := Tryz.f164) (by kernel_rfl) c164 <|
  .cons (fn := Tryz.f165) (by kernel_rfl) c165 <|
  .cons (fn := Tryz.f166) (by kernel_rfl) c166 <|
  .cons (fn := Tryz.f172) (by kernel_rfl) c172 <|
  .cons (fn := Tryz.f173) (by kernel_rfl) c173 <|
  .cons (fn := Tryz.f174) (by kernel_rfl) c174 <|
  .cons (fn := Tryz.f175) (by kernel_rfl) c175 <|
  .cons (fn := Tryz.f177) (by kernel_rfl) c177 <|
  .cons (fn := Tryz.f181) (by kernel_rfl) c181 <|
  .cons (fn := Tryz.f194) (by kernel_rfl) c194 <|
  .cons (fn := Tryz.f195) (by kernel_rfl) c195 <|
  .cons (fn := Tryz.f196) (by kernel_rfl) c196 <|
  .cons (fn := Tryz.f197) (by kernel_rfl) c197 <|
  .cons (fn := Tryz.f198) (by kernel_rfl) c198 <|
  .cons (fn := Tryz.f199) (by kernel_rfl) c199 <|
  .cons (fn := Tryz.f200) (by kernel_rfl) c200 <|
  .cons (fn := Tryz.f201) (by kernel_rfl) c201 <|
  .cons (fn := Tryz.f202) (by kernel_rfl) c202 <|
  .cons (fn := Tryz.f203) (by kernel_rfl) c203 <|
  .cons (fn := Tryz.f204) (by kernel_rfl) c204 <|
  .cons (fn := Tryz.f205) (by kernel_rfl) c205 <|
  .cons (fn := Tryz.f206) (by kernel_rfl) c206 <|
  .cons (fn := Tryz.f212) (by kernel_rfl) c212 <|
  .cons (fn := Tryz.f214) (by kernel_rfl) c214 <|
  .cons (fn := Tryz.f215) (by kernel_rfl) c215 <|
  .cons (fn := Tryz.f217) (by kernel_rfl) c217 <|
  .cons (fn := Tryz.f218) (by kernel_rfl) c218 <|
  .cons (fn := Tryz.f219) (by kernel_rfl) c219 <|
  .cons (fn := Tryz.f225) (by kernel_rfl) c225 <|
  .cons (fn := Tryz.f232) (by kernel_rfl) c232 <|
  .cons (fn := Tryz.f233) (by kernel_rfl) c233 <|
  .cons (fn := Tryz.f234) (by kernel_rfl) c234 <|
  .cons (fn := Tryz.f235) (by kernel_rfl) c235 <|
  .cons (fn := Tryz.f236) (by kernel_rfl) c236 <|
  .cons (fn := Tryz.f237) (by kernel_rfl) c237 <|
  .cons (fn := Tryz.f242) (by kernel_rfl) c242 <|
  .cons (fn := Tryz.f243) (by kernel_rfl) c243 <|
  .cons (fn := Tryz.f250) (by kernel_rfl) c250 <|
  .cons (fn := Tryz.f251) (by kernel_rfl) c251 <|
  .cons (fn := Tryz.f252) (by kernel_rfl) c252 <|
  .cons (fn := Tryz.f253) (by kernel_rfl) c253 <|
  .cons (fn := Tryz.f254) (by kernel_rfl) c254 <|
  .cons (fn := Tryz.f255) (by kernel_rfl) c255 <|
  .cons (fn := Tryz.f256) (by kernel_rfl) c256 <|
  .cons (fn := Tryz.f257) (by kernel_rfl) c257 <|
  .cons (fn := Tryz.f258) (by kernel_rfl) c258 <|
  .cons (fn := Tryz.f259) (by kernel_rfl) c259 <|
  .cons (fn := Tryz.f260) (by kernel_rfl) c260 <|
  .cons (fn := Tryz.f261) (by kernel_rfl) c261 <|
  .cons (fn := Tryz.f262) (by kernel_rfl) c262 <|
  .cons (fn := Tryz.f266) (by kernel_rfl) c266 <|
  .cons (fn := Tryz.f275) (by kernel_rfl) c275 <|
  .cons (fn := Tryz.f279) (by kernel_rfl) c279 <|
  .cons (fn := Tryz.f280) (by kernel_rfl) c280 <|
  .cons (fn := Tryz.f281) (by kernel_rfl) c281 <|
  .cons (fn := Tryz.f282) (by kernel_rfl) c282 <|
  .cons (fn := Tryz.f283) (by kernel_rfl) c283 <|
  .cons (fn := Tryz.f284) (by kernel_rfl) c284 <|
  .cons (fn := Tryz.f285) (by kernel_rfl) c285 <|
  .cons (fn := Tryz.f286) (by kernel_rfl) c286 <|
  .cons (fn := Tryz.f287) (by kernel_rfl) c287 <|
  .cons (fn := Tryz.f289) (by kernel_rfl) c289 <|
  .cons (fn := Tryz.f292) (by kernel_rfl) c292 <|
  .cons (fn := Tryz.f296) (by kernel_rfl) c296 <|
  .cons (fn := Tryz.f297) (by kernel_rfl) c297 <|
  .cons (fn := Tryz.f298) (by kernel_rfl) c298 <|
  .cons (fn := Tryz.f300) (by kernel_rfl) c300 <|
  .cons (fn := Tryz.f301) (by kernel_rfl) c301 <|
  .cons (fn := Tryz.f302) (by kernel_rfl) c302 <|
  .cons (fn := Tryz.f304) (by kernel_rfl) c304 <|
  .cons (fn := Tryz.f305) (by kernel_rfl) c305 <|
  .cons (fn := Tryz.f312) (by kernel_rfl) c312 <|
  .cons (fn := Tryz.f313) (by kernel_rfl) c313 <|
  .cons (fn := Tryz.f314) (by kernel_rfl) c314 <|
  .cons (fn := Tryz.f315) (by kernel_rfl) c315 <|
  .cons (fn := Tryz.f316) (by kernel_rfl) c316 <|
  .cons (fn := Tryz.f318) (by kernel_rfl) c318 <|
  .cons (fn := Tryz.f319) (by kernel_rfl) c319 <|
  .cons (fn := Tryz.f324) (by kernel_rfl) c324 <|
  .cons (fn := Tryz.f325) (by kernel_rfl) c325 <|
  .cons (fn := Tryz.f326) (by kernel_rfl) c326 <|
  .cons (fn := Tryz.f327) (by kernel_rfl) c327 <|
  .cons (fn := Tryz.f328) (by kernel_rfl) c328 <|
  .cons (fn := Tryz.f329) (by kernel_rfl) c329 <|
  .cons (fn := Tryz.f330) (by kernel_rfl) c330 <|
  .cons (fn := Tryz.f340) (by kernel_rfl) c340 <|
  .cons (fn := Tryz.f342) (by kernel_rfl) c342 <|
  .cons (fn := Tryz.f343) (by kernel_rfl) c343 <|
  .cons (fn := Tryz.f348) (by kernel_rfl) c348 <|
  .cons (fn := Tryz.f349) (by kernel_rfl) c349 <|
  .cons (fn := Tryz.f350) (by kernel_rfl) c350 <|
  .cons (fn := Tryz.f352) (by kernel_rfl) c352 <|
  .nil

/-- slices.Clone[[][2]int,[2]int] -/
def cl153 : CloneText Tryz.prog Tryz.f153 64 2 16 (.agg [(.int .i64 0), (.int .i64 0)]) :=
  ⟨_, _, _, _, _, _, _, _, _, 54, 54, 64, rfl, by kernel_rfl, by kernel_rfl, rfl, rfl, rfl, by kernel_rfl, by kernel_rfl, by kernel_rfl, rfl, rfl⟩

/-- slices.Clone[[]broadside/api.Own,broadside/api.Own] -/
def cl78 : CloneText Tryz.prog Tryz.f78 159 3 40 (.agg [(.int .i64 0), (.int .i64 0), .nsl]) :=
  ⟨_, _, _, _, _, _, _, _, _, 26, 26, 159, rfl, by kernel_rfl, by kernel_rfl, rfl, rfl, rfl, by kernel_rfl, by kernel_rfl, by kernel_rfl, rfl, rfl⟩

/-- slices.Clone[[]broadside/api.Entry,broadside/api.Entry] -/
def cl77 : CloneText Tryz.prog Tryz.f77 156 7 72 (.agg [(.int .i64 0), (.int .i64 0), (.int .i64 0), (.int .i64 0), .nsl, (.int .i64 0), (.bool false)]) :=
  ⟨_, _, _, _, _, _, _, _, _, 25, 25, 156, rfl, by kernel_rfl, by kernel_rfl, rfl, rfl, rfl, by kernel_rfl, by kernel_rfl, by kernel_rfl, rfl, rfl⟩

/-- slices.Clone[[]broadside/api.ID,broadside/api.ID] -/
def cl76 : CloneText Tryz.prog Tryz.f76 45 2 16 (.agg [(.int .i64 0), (.int .i64 0)]) :=
  ⟨_, _, _, _, _, _, _, _, _, 24, 24, 45, rfl, by kernel_rfl, by kernel_rfl, rfl, rfl, rfl, by kernel_rfl, by kernel_rfl, by kernel_rfl, rfl, rfl⟩

/-- slices.Clone[[]broadside/api.Advert,broadside/api.Advert] -/
def cl75 : CloneText Tryz.prog Tryz.f75 70 4 48 (.agg [(.int .i64 0), (.int .i64 0), .nsl, (.int .i64 0)]) :=
  ⟨_, _, _, _, _, _, _, _, _, 23, 23, 70, rfl, by kernel_rfl, by kernel_rfl, rfl, rfl, rfl, by kernel_rfl, by kernel_rfl, by kernel_rfl, rfl, rfl⟩

/-- slices.Clone[[]int,int] -/
def cl49 : CloneText Tryz.prog Tryz.f49 3 1 8 (.int .i64 0) :=
  ⟨_, _, _, _, _, _, _, _, _, 22, 22, 3, rfl, by kernel_rfl, by kernel_rfl, rfl, rfl, rfl, by kernel_rfl, by kernel_rfl, by kernel_rfl, rfl, rfl⟩

def hooks : List (Nat × Hook) := [(317, overlapsHook), (299, overlapsHook), (295, overlapsHook), (265, overlapsHook), (52, Go.Proofs.YtdacnhfdcejahaaGreatDoor.Err.asHook), (153, cloneHook 64 2 16), (78, cloneHook 159 3 40), (77, cloneHook 156 7 72), (76, cloneHook 45 2 16), (75, cloneHook 70 4 48), (49, cloneHook 3 1 8)]

theorem hooks_ok : HooksOk Tryz.prog hooks :=
  .cons (overlaps_ok (fn := Tryz.f317) (tS := 46) (tR := 4) (e := 288) (by kernel_rfl) (by kernel_rfl) (by kernel_rfl) (by kernel_rfl) (by kernel_rfl) (by kernel_rfl) (by kernel_rfl)) <|
  .cons (overlaps_ok (fn := Tryz.f299) (tS := 25) (tR := 4) (e := 156) (by kernel_rfl) (by kernel_rfl) (by kernel_rfl) (by kernel_rfl) (by kernel_rfl) (by kernel_rfl) (by kernel_rfl)) <|
  .cons (overlaps_ok (fn := Tryz.f295) (tS := 24) (tR := 4) (e := 45) (by kernel_rfl) (by kernel_rfl) (by kernel_rfl) (by kernel_rfl) (by kernel_rfl) (by kernel_rfl) (by kernel_rfl)) <|
  .cons (overlaps_ok (fn := Tryz.f265) (tS := 23) (tR := 4) (e := 70) (by kernel_rfl) (by kernel_rfl) (by kernel_rfl) (by kernel_rfl) (by kernel_rfl) (by kernel_rfl) (by kernel_rfl)) <|
  .cons Go.Proofs.YtdacnhfdcejahaaGreatDoor.Err.asHookOk <|
  .cons (clone_ok (fn := Tryz.f153) (by kernel_rfl) (by kernel_rfl) (by kernel_rfl) cl153) <|
  .cons (clone_ok (fn := Tryz.f78) (by kernel_rfl) (by kernel_rfl) (by kernel_rfl) cl78) <|
  .cons (clone_ok (fn := Tryz.f77) (by kernel_rfl) (by kernel_rfl) (by kernel_rfl) cl77) <|
  .cons (clone_ok (fn := Tryz.f76) (by kernel_rfl) (by kernel_rfl) (by kernel_rfl) cl76) <|
  .cons (clone_ok (fn := Tryz.f75) (by kernel_rfl) (by kernel_rfl) (by kernel_rfl) cl75) <|
  .cons (clone_ok (fn := Tryz.f49) (by kernel_rfl) (by kernel_rfl) (by kernel_rfl) cl49) <|
  .nil

def D : DProg := hookedD tab hooks

theorem good : Good Tryz.prog D := hookedD_good (by kernel_rfl) tab_ok hooks_ok

end Go.Dm.TabN
