/-
The table of functions (TabB). Written by program (wip/tools/table.lean.txt).
-/
import Derived.Test.YtdacnhfdcejahaaGreatDoorTabB0
import Derived.Test.YtdacnhfdcejahaaGreatDoorTabB1
import Derived.Test.YtdacnhfdcejahaaGreatDoorTabB2
import Derived.Test.YtdacnhfdcejahaaGreatDoorTabB3
import Derived.Test.YtdacnhfdcejahaaGreatDoorAsD
namespace Go.Dm.TabB
open Go.Proofs

def tab : List (Nat × DFunc) := [(3, t3), (11, t11), (12, t12), (13, t13), (14, t14), (15, t15), (16, t16), (17, t17), (26, t26), (46, t46), (47, t47), (48, t48), (50, t50), (51, t51), (53, t53), (54, t54), (69, t69), (73, t73), (82, t82), (92, t92), (93, t93), (97, t97), (98, t98), (99, t99), (100, t100), (101, t101), (102, t102), (103, t103), (104, t104), (105, t105), (106, t106), (107, t107), (112, t112), (113, t113), (114, t114), (115, t115), (116, t116), (117, t117), (118, t118), (119, t119), (120, t120), (124, t124), (131, t131), (136, t136), (137, t137), (142, t142), (148, t148), (154, t154), (155, t155), (156, t156), (157, t157), (160, t160), (161, t161), (164, t164), (165, t165), (166, t166), (174, t174), (175, t175), (177, t177), (181, t181), (183, t183), (184, t184), (185, t185), (186, t186), (187, t187), (188, t188), (189, t189), (190, t190), (191, t191), (192, t192), (193, t193), (194, t194), (195, t195), (196, t196), (197, t197), (198, t198), (199, t199), (200, t200), (201, t201), (202, t202), (203, t203), (204, t204), (205, t205), (206, t206), (210, t210), (212, t212), (214, t214), (215, t215), (217, t217), (218, t218), (219, t219), (225, t225), (232, t232), (233, t233), (234, t234), (235, t235), (242, t242), (243, t243), (258, t258), (259, t259), (260, t260), (261, t261), (262, t262), (266, t266), (271, t271), (273, t273), (274, t274), (275, t275), (276, t276), (277, t277), (279, t279), (280, t280), (281, t281), (282, t282), (283, t283), (284, t284), (285, t285), (286, t286), (287, t287), (289, t289), (292, t292), (296, t296), (297, t297), (298, t298), (300, t300), (304, t304), (305, t305), (315, t315), (316, t316), (318, t318), (319, t319), (324, t324), (325, t325), (326, t326), (327, t327), (328, t328), (329, t329), (342, t342), (343, t343), (348, t348), (349, t349), (350, t350), (352, t352)]

set_option maxRecDepth 100000 in
theorem tab_ok : TabOk Tryz.prog tab :=
  .cons (fn := Tryz.f3) (by kernel_rfl) c3 <|
  .cons (fn := Tryz.f11) (by kernel_rfl) c11 <|
  .cons (fn := Tryz.f12) (by kernel_rfl) c12 <|
  .cons (fn := Tryz.f13) (by kernel_rfl) c13 <|
  .cons (fn := Tryz.f14) (by kernel_rfl) c14 <|
  .cons (fn := Tryz.f15) (by kernel_rfl) c15 <|
  .cons (fn := Tryz.f16) (by kernel_rfl) c16 <|
  .cons (fn := Tryz.f17) (by kernel_rfl) c17 <|
  .cons (fn := Tryz.f26) (by kernel_rfl) c26 <|
  .cons (fn := Tryz.f46) (by kernel_rfl) c46 <|
  .cons (fn := Tryz.f47) (by kernel_rfl) c47 <|
  .cons (fn := Tryz.f48) (by kernel_rfl) c48 <|
  .cons (fn := Tryz.f50) (by kernel_rfl) c50 <|
  .cons (fn := Tryz.f51) (by kernel_rfl) c51 <|
  .cons (fn := Tryz.f53) (by kernel_rfl) c53 <|
  .cons (fn := Tryz.f54) (by kernel_rfl) c54 <|
  .cons (fn := Tryz.f69) (by kernel_rfl) c69 <|
  .cons (fn := Tryz.f73) (by kernel_rfl) c73 <|
  .cons (fn := Tryz.f82) (by kernel_rfl) c82 <|
  .cons (fn := Tryz.f92) (by kernel_rfl) c92 <|
  .cons (fn := Tryz.f93) (by kernel_rfl) c93 <|
  .cons (fn := Tryz.f97) (by kernel_rfl) c97 <|
  .cons (fn := Tryz.f98) (by kernel_rfl) c98 <|
  .cons (fn := Tryz.f99) (by kernel_rfl) c99 <|
  .cons (fn := Tryz.f100) (by kernel_rfl) c100 <|
  .cons (fn := Tryz.f101) (by kernel_rfl) c101 <|
  .cons (fn := Tryz.f102) (by kernel_rfl) c102 <|
  .cons (fn := Tryz.f103) (by kernel_rfl) c103 <|
  .cons (fn := Tryz.f104) (by kernel_rfl) c104 <|
  .cons (fn := Tryz.f105) (by kernel_rfl) c105 <|
  .cons (fn := Tryz.f106) (by kernel_rfl) c106 <|
  .cons (fn := Tryz.f107) (by kernel_rfl) c107 <|
  .cons (fn := Tryz.f112) (by kernel_rfl) c112 <|
  .cons (fn := Tryz.f113) (by kernel_rfl) c113 <|
  .cons (fn := Tryz.f114) (by kernel_rfl) c114 <|
  .cons (fn := Tryz.f115) (by kernel_rfl) c115 <|
  .cons (fn := Tryz.f116) (by kernel_rfl) c116 <|
  .cons (fn := Tryz.f117) (by kernel_rfl) c117 <|
  .cons (fn := Tryz.f118) (by kernel_rfl) c118 <|
  .cons (fn := Tryz.f119) (by kernel_rfl) c119 <|
  .cons (fn := Tryz.f120) (by kernel_rfl) c120 <|
  .cons (fn := Tryz.f124) (by kernel_rfl) c124 <|
  .cons (fn := Tryz.f131) (by kernel_rfl) c131 <|
  .cons (fn := Tryz.f136) (by kernel_rfl) c136 <|
  .cons (fn := Tryz.f137) (by kernel_rfl) c137 <|
  .cons (fn := Tryz.f142) (by kernel_rfl) c142 <|
  .cons (fn := Tryz.f148) (by kernel_rfl) c148 <|
  .cons (fn := Tryz.f154) (by kernel_rfl) c154 <|
  .cons (fn := Tryz.f155) (by kernel_rfl) c155 <|
  .cons (fn := Tryz.f156) (by kernel_rfl) c156 <|
  .cons (fn := Tryz.f157) (by kernel_rfl) c157 <|
  .cons (fn := Tryz.f160) (by kernel_rfl) c160 <|
  .cons (fn := Tryz.f161) (by kernel_rfl) c161 <|
  .cons (fn := Tryz.f164) (by kernel_rfl) c164 <|
  .cons (fn := Tryz.f165) (by kernel_rfl) c165 <|
  .cons (fn := Tryz.f166) (by kernel_rfl) c166 <|
  .cons (fn := Tryz.f174) (by kernel_rfl) c174 <|
  .cons (fn := Tryz.f175) (by kernel_rfl) c175 <|
  .cons (fn := Tryz.f177) (by kernel_rfl) c177 <|
  .cons (fn := Tryz.f181) (by kernel_rfl) c181 <|
  .cons (fn := Tryz.f183) (by kernel_rfl) c183 <|
  .cons (fn := Tryz.f184) (by kernel_rfl) c184 <|
  .cons (fn := Tryz.f185) (by kernel_rfl) c185 <|
  .cons (fn := Tryz.f186) (by kernel_rfl) c186 <|
  .cons (fn := Tryz.f187) (by kernel_rfl) c187 <|
  .cons (fn := Tryz.f188) (by kernel_rfl) c188 <|
  .cons (fn := Tryz.f189) (by kernel_rfl) c189 <|
  .cons (fn := Tryz.f190) (by kernel_rfl) c190 <|
  .cons (fn := Tryz.f191) (by kernel_rfl) c191 <|
  .cons (fn := Tryz.f192) (by kernel_rfl) c192 <|
  .cons (fn := Tryz.f193) (by kernel_rfl) c193 <|
  .cons (fn := Tryz.f194) (by kernel_rfl) c194 <|
  .cons (fn := Tryz.f195) (by kernel_rfl) c195 <|
  .cons (fn := Tryz.f196) (by kernel_rfl) c196 <|
  .cons (fn := Tryz.f197) (by kernel_rfl) c197 <|
  .cons (fn := Tryz.f198) (by kernel_rfl) c198 <|
  .cons (fn := Tryz.f199) (by kernel_rfl) c199 <|
  .cons (fn := Tryz.f200) (by kernel_rfl) c200 <|
  .cons (fn := Tryz.f201) (by kernel_rfl) c201 <|
  .cons (fn := Tryz.f202) (by kernel_rfl) c202 <|
  .cons (fn := Tryz.f203) (by kernel_rfl) c203 <|
  .cons (fn := Tryz.f204) (by kernel_rfl) c204 <|
  .cons (fn := Tryz.f205) (by kernel_rfl) c205 <|
  .cons (fn := Tryz.f206) (by kernel_rfl) c206 <|
  .cons (fn := Tryz.f210) (by kernel_rfl) c210 <|
  .cons (fn := Tryz.f212) (by kernel_rfl) c212 <|
  .cons (fn := Tryz.f214) (by kernel_rfl) c214 <|
  .cons (fn := Tryz.f215) (by kernel_rfl) c215 <|
  .cons (fn := Tryz.f217) (by kernel_rfl) c217 <|
  .cons (fn := Tryz.f218) (by kernel_rfl) c218 <|
  .cons (fn := Tryz.f219) (by kernel_rfl) c219 <|
  .cons (fn := Tryz.f225) (by kernel_rfl) c225 <|
  .cons (fn := Tryz.f232) (by kernel_rfl) c232 <|
  .cons (fn := Tryz.f233) (by kernel_rfl) c233 <|
  .cons (fn := Tryz.f234) (by kernel_rfl) c234 <|
  .cons (fn := Tryz.f235) (by kernel_rfl) c235 <|
  .cons (fn := Tryz.f242) (by kernel_rfl) c242 <|
  .cons (fn := Tryz.f243) (by kernel_rfl) c243 <|
  .cons (fn := Tryz.f258) (by kernel_rfl) c258 <|
  .cons (fn := Tryz.f259) (by kernel_rfl) c259 <|
  .cons (fn := Tryz.f260) (by kernel_rfl) c260 <|
  .cons (fn := Tryz.f261) (by kernel_rfl) c261 <|
  .cons (fn := Tryz.f262) (by kernel_rfl) c262 <|
  .cons (fn := Tryz.f266) (by kernel_rfl) c266 <|
  .cons (fn := Tryz.f271) (by kernel_rfl) c271 <|
  .cons (fn := Tryz.f273) (by kernel_rfl) c273 <|
  .cons (fn := Tryz.f274) (by kernel_rfl) c274 <|
  .cons (fn := Tryz.f275) (by kernel_rfl) c275 <|
  .cons (fn := Tryz.f276) (by kernel_rfl) c276 <|
  .cons (fn := Tryz.f277) (by kernel_rfl) c277 <|
  .cons (fn := Tryz.f279) (by kernel_rfl) c279 <|
  .cons (fn := Tryz.f280) (by kernel_rfl) c280 <|
  .cons (fn := Tryz.f281) (by kernel_rfl) c281 <|
  .cons (fn := Tryz.f282) (by kernel_rfl) c282 <|
  .cons (fn := Tryz.f283) (by kernel_rfl) c283 <|
  .cons (fn := Tryz.f284) (by kernel_rfl) c284 <|
  .cons (fn := Tryz.f285) (by kernel_rfl) c285 <|
  .cons (fn := Tryz.f286) (by kernel_rfl) c286 <|
  .cons (fn := Tryz.f287) (by kernel_rfl) c287 <|
  .cons (fn := Tryz.f289) (by kernel_rfl) c289 <|
  .cons (fn := Tryz.f292) (by kernel_rfl) c292 <|
  .cons (fn := Tryz.f296) (by kernel_rfl) c296 <|
  .cons (fn := Tryz.f297) (by kernel_rfl) c297 <|
  .cons (fn := Tryz.f298) (by kernel_rfl) c298 <|
  .cons (fn := Tryz.f300) (by kernel_rfl) c300 <|
  .cons (fn := Tryz.f304) (by kernel_rfl) c304 <|
  .cons (fn := Tryz.f305) (by kernel_rfl) c305 <|
  .cons (fn := Tryz.f315) (by kernel_rfl) c315 <|
  .cons (fn := Tryz.f316) (by kernel_rfl) c316 <|
  .cons (fn := Tryz.f318) (by kernel_rfl) c318 <|
  .cons (fn := Tryz.f319) (by kernel_rfl) c319 <|
  .cons (fn := Tryz.f324) (by kernel_rfl) c324 <|
  .cons (fn := Tryz.f325) (by kernel_rfl) c325 <|
  .cons (fn := Tryz.f326) (by kernel_rfl) c326 <|
  .cons (fn := Tryz.f327) (by kernel_rfl) c327 <|
  .cons (fn := Tryz.f328) (by kernel_rfl) c328 <|
  .cons (fn := Tryz.f329) (by kernel_rfl) c329 <|
  .cons (fn := Tryz.f342) (by kernel_rfl) c342 <|
  .cons (fn := Tryz.f343) (by kernel_rfl) c343 <|
  .cons (fn := Tryz.f348) (by kernel_rfl) c348 <|
  .cons (fn := Tryz.f349) (by kernel_rfl) c349 <|
  .cons (fn := Tryz.f350) (by kernel_rfl) c350 <|
  .cons (fn := Tryz.f352) (by kernel_rfl) c352 <|
  .nil

/-- slices.Clone[[]broadside/api.Own,broadside/api.Own] -/
def cl78 : CloneText Tryz.prog Tryz.f78 159 3 40 (.agg [(.int .i64 0), (.int .i64 0), .nsl]) :=
  ⟨_, _, _, _, _, _, _, _, _, 26, 26, 159, rfl, by kernel_rfl, by kernel_rfl, rfl, rfl, rfl, by kernel_rfl, by kernel_rfl, by kernel_rfl, rfl, rfl⟩

/-- slices.Clone[[]broadside/api.ID,broadside/api.ID] -/
def cl76 : CloneText Tryz.prog Tryz.f76 45 2 16 (.agg [(.int .i64 0), (.int .i64 0)]) :=
  ⟨_, _, _, _, _, _, _, _, _, 24, 24, 45, rfl, by kernel_rfl, by kernel_rfl, rfl, rfl, rfl, by kernel_rfl, by kernel_rfl, by kernel_rfl, rfl, rfl⟩

/-- slices.Clone[[]broadside/api.Advert,broadside/api.Advert] -/
def cl75 : CloneText Tryz.prog Tryz.f75 70 4 48 (.agg [(.int .i64 0), (.int .i64 0), .nsl, (.int .i64 0)]) :=
  ⟨_, _, _, _, _, _, _, _, _, 23, 23, 70, rfl, by kernel_rfl, by kernel_rfl, rfl, rfl, rfl, by kernel_rfl, by kernel_rfl, by kernel_rfl, rfl, rfl⟩

/-- slices.Clone[[]broadside/api.Entry,broadside/api.Entry] -/
def cl77 : CloneText Tryz.prog Tryz.f77 156 7 72 (.agg [(.int .i64 0), (.int .i64 0), (.int .i64 0), (.int .i64 0), .nsl, (.int .i64 0), (.bool false)]) :=
  ⟨_, _, _, _, _, _, _, _, _, 25, 25, 156, rfl, by kernel_rfl, by kernel_rfl, rfl, rfl, rfl, by kernel_rfl, by kernel_rfl, by kernel_rfl, rfl, rfl⟩

/-- slices.Clone[[]int,int] -/
def cl49 : CloneText Tryz.prog Tryz.f49 3 1 8 (.int .i64 0) :=
  ⟨_, _, _, _, _, _, _, _, _, 22, 22, 3, rfl, by kernel_rfl, by kernel_rfl, rfl, rfl, rfl, by kernel_rfl, by kernel_rfl, by kernel_rfl, rfl, rfl⟩

def hooks : List (Nat × Hook) := [(317, overlapsHook), (299, overlapsHook), (295, overlapsHook), (265, overlapsHook), (52, Go.Proofs.YtdacnhfdcejahaaGreatDoor.Err.asHook), (78, cloneHook 159 3 40), (76, cloneHook 45 2 16), (75, cloneHook 70 4 48), (77, cloneHook 156 7 72), (49, cloneHook 3 1 8)]

theorem hooks_ok : HooksOk Tryz.prog hooks :=
  .cons (overlaps_ok (fn := Tryz.f317) (tS := 46) (tR := 4) (e := 288) (by kernel_rfl) (by kernel_rfl) (by kernel_rfl) (by kernel_rfl) (by kernel_rfl) (by kernel_rfl) (by kernel_rfl)) <|
  .cons (overlaps_ok (fn := Tryz.f299) (tS := 25) (tR := 4) (e := 156) (by kernel_rfl) (by kernel_rfl) (by kernel_rfl) (by kernel_rfl) (by kernel_rfl) (by kernel_rfl) (by kernel_rfl)) <|
  .cons (overlaps_ok (fn := Tryz.f295) (tS := 24) (tR := 4) (e := 45) (by kernel_rfl) (by kernel_rfl) (by kernel_rfl) (by kernel_rfl) (by kernel_rfl) (by kernel_rfl) (by kernel_rfl)) <|
  .cons (overlaps_ok (fn := Tryz.f265) (tS := 23) (tR := 4) (e := 70) (by kernel_rfl) (by kernel_rfl) (by kernel_rfl) (by kernel_rfl) (by kernel_rfl) (by kernel_rfl) (by kernel_rfl)) <|
  .cons Go.Proofs.YtdacnhfdcejahaaGreatDoor.Err.asHookOk <|
  .cons (clone_ok (fn := Tryz.f78) (by kernel_rfl) (by kernel_rfl) (by kernel_rfl) cl78) <|
  .cons (clone_ok (fn := Tryz.f76) (by kernel_rfl) (by kernel_rfl) (by kernel_rfl) cl76) <|
  .cons (clone_ok (fn := Tryz.f75) (by kernel_rfl) (by kernel_rfl) (by kernel_rfl) cl75) <|
  .cons (clone_ok (fn := Tryz.f77) (by kernel_rfl) (by kernel_rfl) (by kernel_rfl) cl77) <|
  .cons (clone_ok (fn := Tryz.f49) (by kernel_rfl) (by kernel_rfl) (by kernel_rfl) cl49) <|
  .nil

def D : DProg := hookedD tab hooks

theorem good : Good Tryz.prog D := hookedD_good (by kernel_rfl) tab_ok hooks_ok

end Go.Dm.TabB
