/-
The table of functions (Tr7). Written by program (wip/tools/table3.lean.txt).
-/
import Derived.Test.YtloabemenciijaaGreatDoorTr70
import Derived.Test.YtloabemenciijaaGreatDoorTr71
import Derived.Test.YtloabemenciijaaGreatDoorTr72
import Derived.Test.YtloabemenciijaaGreatDoorTr73
import Derived.Test.YtloabemenciijaaGreatDoorTr74
import Derived.Test.YtloabemenciijaaGreatDoorTr75
import Derived.Test.YtloabemenciijaaGreatDoorTr76
import Derived.Test.YtloabemenciijaaGreatDoorAsD
namespace Go.Dm.Tr7
open Go.Proofs

def tab : List (Nat × DFunc) := [(7, t7), (18, t18), (23, t23), (28, t28), (32, t32), (37, t37), (38, t38), (39, t39), (40, t40), (42, t42), (43, t43), (44, t44), (46, t46), (48, t48), (49, t49), (55, t55), (56, t56), (58, t58), (63, t63), (64, t64), (65, t65), (77, t77), (78, t78), (79, t79), (80, t80), (81, t81), (82, t82), (92, t92), (93, t93), (94, t94), (95, t95), (99, t99), (106, t106), (107, t107), (112, t112), (113, t113), (118, t118), (119, t119), (120, t120), (121, t121), (125, t125), (126, t126), (129, t129), (130, t130), (131, t131), (132, t132), (133, t133), (134, t134), (135, t135), (136, t136), (137, t137), (138, t138), (139, t139), (142, t142), (144, t144), (145, t145), (146, t146), (147, t147), (154, t154), (155, t155), (156, t156), (159, t159), (167, t167), (168, t168), (169, t169), (170, t170), (171, t171), (172, t172), (178, t178), (179, t179), (180, t180), (181, t181), (182, t182), (183, t183), (184, t184), (185, t185), (186, t186), (187, t187), (188, t188), (189, t189), (193, t193), (194, t194), (195, t195), (196, t196), (197, t197), (199, t199), (200, t200), (201, t201), (202, t202), (204, t204), (205, t205), (206, t206), (213, t213), (214, t214), (215, t215), (216, t216), (217, t217), (218, t218), (219, t219), (220, t220), (221, t221), (222, t222), (226, t226), (227, t227), (228, t228), (229, t229), (230, t230), (231, t231), (237, t237), (238, t238), (239, t239), (240, t240), (244, t244), (245, t245), (246, t246), (247, t247), (248, t248), (249, t249), (250, t250), (251, t251), (252, t252), (253, t253), (254, t254), (255, t255), (256, t256), (258, t258), (259, t259), (260, t260), (261, t261), (262, t262), (263, t263), (265, t265), (273, t273), (274, t274), (275, t275), (276, t276), (278, t278), (279, t279), (280, t280), (281, t281), (282, t282), (283, t283), (284, t284), (285, t285), (286, t286), (287, t287), (288, t288), (289, t289), (290, t290), (291, t291), (292, t292), (294, t294), (297, t297), (298, t298), (299, t299), (300, t300), (301, t301), (302, t302), (303, t303), (304, t304), (305, t305), (307, t307), (309, t309), (310, t310), (311, t311), (312, t312), (313, t313), (315, t315), (316, t316), (317, t317), (318, t318), (320, t320), (321, t321), (325, t325), (326, t326), (327, t327), (328, t328), (329, t329), (330, t330), (331, t331), (332, t332), (333, t333), (334, t334), (335, t335), (336, t336), (337, t337), (338, t338), (339, t339), (341, t341), (342, t342), (343, t343), (344, t344), (345, t345), (346, t346), (347, t347), (348, t348), (349, t349), (350, t350), (351, t351), (352, t352), (353, t353), (355, t355), (356, t356), (357, t357), (359, t359), (360, t360), (361, t361), (362, t362), (363, t363), (364, t364), (365, t365), (366, t366), (367, t367), (368, t368), (369, t369), (371, t371), (372, t372), (373, t373), (375, t375), (376, t376)]

set_option maxRecDepth 100000 in
theorem tab_ok : TabOk Tryz.prog tab :=
  .cons (fn := Tryz.f7) (by kernel_rfl) c7 <|
  .cons (fn := Tryz.f18) (by kernel_rfl) c18 <|
  .cons (fn := Tryz.f23) (by kernel_rfl) c23 <|
  .cons (fn := Tryz.f28) (by kernel_rfl) c28 <|
  .cons (fn := Tryz.f32) (by kernel_rfl) c32 <|
  .cons (fn := Tryz.f37) (by kernel_rfl) c37 <|
  .cons (fn := Tryz.f38) (by kernel_rfl) c38 <|
  .cons (fn := Tryz.f39) (by kernel_rfl) c39 <|
  .cons (fn := Tryz.f40) (by kernel_rfl) c40 <|
  .cons (fn := Tryz.f42) (by kernel_rfl) c42 <|
  .cons (fn := Tryz.f43) (by kernel_rfl) c43 <|
  .cons (fn := Tryz.f44) (by kernel_rfl) c44 <|
  .cons (fn := Tryz.f46) (by kernel_rfl) c46 <|
  .cons (fn := Tryz.f48) (by kernel_rfl) c48 <|
  .cons (fn := Tryz.f49) (by kernel_rfl) c49 <|
  .cons (fn := Tryz.f55) (by kernel_rfl) c55 <|
  .cons (fn := Tryz.f56) (by kernel_rfl) c56 <|
  .cons (fn := Tryz.f58) (by kernel_rfl) c58 <|
  .cons (fn := Tryz.f63) (by kernel_rfl) c63 <|
  .cons (fn := Tryz.f64) (by kernel_rfl) c64 <|
  .cons (fn := Tryz.f65) (by kernel_rfl) c65 <|
  .cons (fn := Tryz.f77) (by kernel_rfl) c77 <|
  .cons (fn := Tryz.f78) (by kernel_rfl) c78 <|
  .cons (fn := Tryz.f79) (by kernel_rfl) c79 <|
  .cons (fn := Tryz.f80) (by kernel_rfl) c80 <|
  .cons (fn := Tryz.f81) (by kernel_rfl) c81 <|
  .cons (fn := Tryz.f82) (by kernel_rfl) c82 <|
  .cons (fn := Tryz.f92) (by kernel_rfl) c92 <|
  .cons (fn := Tryz.f93) (by kernel_rfl) c93 <|
  .cons (fn := Tryz.f94) (by kernel_rfl) c94 <|
  .cons (fn := Tryz.f95) (by kernel_rfl) c95 <|
  .cons (fn := Tryz.f99) (by kernel_rfl) c99 <|
  .cons (fn := Tryz.f106) (by kernel_rfl) c106 <|
  .cons (fn := Tryz.f107) (by kernel_rfl) c107 <|
  .cons (fn := Tryz.f112) (by kernel_rfl) c112 <|
  .cons (fn := Tryz.f113) (by kernel_rfl) c113 <|
  .cons (fn := Tryz.f118) (by kernel_rfl) c118 <|
  .cons (fn := Tryz.f119) (by kernel_rfl) c119 <|
  .cons (fn := Tryz.f120) (by kernel_rfl) c120 <|
  .cons (fn := Tryz.f121) (by kernel_rfl) c121 <|
  .cons (fn := Tryz.f125) (by kernel_rfl) c125 <|
  .cons (fn := Tryz.f126) (by kernel_rfl) c126 <|
  .cons (fn := Tryz.f129) (by kernel_rfl) c129 <|
  .cons (fn := Tryz.f130) (by kernel_rfl) c130 <|
  .cons (fn := Tryz.f131) (by kernel_rfl) c131 <|
  .cons (fn := Tryz.f132) (by kernel_rfl) c132 <|
  .cons (fn := Tryz.f133) (by kernel_rfl) c133 <|
  .cons (fn := Tryz.f134) (by kernel_rfl) c134 <|
  .cons (fn := Tryz.f135) (by kernel_rfl) c135 <|
  .cons (fn := Tryz.f136) (by kernel_rfl) c136 <|
  .cons (fn := Tryz.f137) (by kernel_rfl) c137 <|
  .cons (fn := Tryz.f138) (by kernel_rfl) c138 <|
  .cons (fn := Tryz.f139) (by kernel_rfl) c139 <|
  .cons (fn := Tryz.f142) (by kernel_rfl) c142 <|
  .cons (fn := Tryz.f144) (by kernel_rfl) c144 <|
  .cons (fn := Tryz.f145) (by kernel_rfl) c145 <|
  .cons (fn := Tryz.f146) (by kernel_rfl) c146 <|
  .cons (fn := Tryz.f147) (by kernel_rfl) c147 <|
  .cons (fn := Tryz.f154) (by kernel_rfl) c154 <|
  .cons (fn := Tryz.f155) (by kernel_rfl) c155 <|
  .cons (fn := Tryz.f156) (by kernel_rfl) c156 <|
  .cons (fn := Tryz.f159) (by kernel_rfl) c159 <|
  .cons (fn := Tryz.f167) (by kernel_rfl) c167 <|
  .cons (fn := Tryz.f168) (by kernel_rfl) c168 <|
  .cons (fn := Tryz.f169) (by kernel_rfl) c169 <|
  .cons (fn := Tryz.f170) (by kernel_rfl) c170 <|
  .cons (fn := Tryz.f171) (by kernel_rfl) c171 <|
  .cons (fn := Tryz.f172) (by kernel_rfl) c172 <|
  .cons (fn := Tryz.f178) (by kernel_rfl) c178 <|
  .cons (fn := Tryz.f179) (by kernel_rfl) c179 <|
  .cons (fn := Tryz.f180) (by kernel_rfl) c180 <|
  .cons (fn := Tryz.f181) (by kernel_rfl) c181 <|
  .cons (fn := Tryz.f182) (by kernel_rfl) c182 <|
  .cons (fn := Tryz.f183) (by kernel_rfl) c183 <|
  .cons (fn := Tryz.f184) (by kernel_rfl) c184 <|
  .cons (fn := Tryz.f185) (by kernel_rfl) c185 <|
  .cons (fn := Tryz.f186) (by kernel_rfl) c186 <|
  .cons (fn := Tryz.f187) (by kernel_rfl) c187 <|
  .cons (fn := Tryz.f188) (by kernel_rfl) c188 <|
  .cons (fn := Tryz.f189) (by kernel_rfl) c189 <|
  .cons (fn := Tryz.f193) (by kernel_rfl) c193 <|
  .cons (fn := Tryz.f194) (by kernel_rfl) c194 <|
  .cons (fn := Tryz.f195) (by kernel_rfl) c195 <|
  .cons (fn := Tryz.f196) (by kernel_rfl) c196 <|
  .cons (fn := Tryz.f197) (by kernel_rfl) c197 <|
  .cons (fn := Tryz.f199) (by kernel_rfl) c199 <|
  .cons (fn := Tryz.f200) (by kernel_rfl) c200 <|
  .cons (fn := Tryz.f201) (by kernel_rfl) c201 <|
  .cons (fn := Tryz.f202) (by kernel_rfl) c202 <|
  .cons (fn := Tryz.f204) (by kernel_rfl) c204 <|
  .cons (fn := Tryz.f205) (by kernel_rfl) c205 <|
  .cons (fn := Tryz.f206) (by kernel_rfl) c206 <|
  .cons (fn := Tryz.f213) (by kernel_rfl) c213 <|
  .cons (fn := Tryz.f214) (by kernel_rfl) c214 <|
  .cons (fn := Tryz.f215) (by kernel_rfl) c215 <|
  .cons (fn := Tryz.f216) (by kernel_rfl) c216 <|
  .cons (fn := Tryz.f217) (by kernel_rfl) c217 <|
  .cons (fn := Tryz.f218) (by kernel_rfl) c218 <|
  .cons (fn := Tryz.f219) (by kernel_rfl) c219 <|
  .cons (fn := Tryz.f220) (by kernel_rfl) c220 <|
  .cons (fn := Tryz.f221) (by kernel_rfl) c221 <|
  .cons (fn := Tryz.f222) (by kernel_rfl) c222 <|
  .cons (fn := Tryz.f226) (by kernel_rfl) c226 <|
  .cons (fn := Tryz.f227) (by kernel_rfl) c227 <|
  .cons (fn := Tryz.f228) (by kernel_rfl) c228 <|
  .cons (fn := Tryz.f229) (by kernel_rfl) c229 <|
  .cons (fn := Tryz.f230) (by kernel_rfl) c230 <|
  .cons (fn := Tryz.f231) (by kernel_rfl) c231 <|
  .cons (fn := Tryz.f237) (by kernel_rfl) c237 <|
  .cons (fn := Tryz.f238) (by kernel_rfl) c238 <|
  .cons (fn := Tryz.f239) (by kernel_rfl) c239 <|
  .cons (fn := Tryz.f240) (by kernel_rfl) c240 <|
  .cons (fn := Tryz.f244) (by kernel_rfl) c244 <|
  .cons (fn := Tryz.f245) (by kernel_rfl) c245 <|
  .cons (fn := Tryz.f246) (by kernel_rfl) c246 <|
  .cons (fn := Tryz.f247) (by kernel_rfl) c247 <|
  .cons (fn := Tryz.f248) (by kernel_rfl) c248 <|
  .cons (fn := Tryz.f249) (by kernel_rfl) c249 <|
  .cons (fn := Tryz.f250) (by kernel_rfl) c250 <|
  .cons (fn := Tryz.f251) (by kernel_rfl) c251 <|
  .cons (fn := Tryz.f252) (by kernel_rfl) c252 <|
  .cons (fn := Tryz.f253) (by kernel_rfl) c253 <|
  .cons (fn := Tryz.f254) (by kernel_rfl) c254 <|
  .cons (fn := Tryz.f255) (by kernel_rfl) c255 <|
  .cons (fn := Tryz.f256) (by kernel_rfl) c256 <|
  .cons (fn := Tryz.f258) (by kernel_rfl) c258 <|
  .cons (fn := Tryz.f259) (by kernel_rfl) c259 <|
  .cons (fn := Tryz.f260) (by kernel_rfl) c260 <|
  .cons (fn := Tryz.f261) (by kernel_rfl) c261 <|
  .cons (fn := Tryz.f262) (by kernel_rfl) c262 <|
  .cons (fn := Tryz.f263) (by kernel_rfl) c263 <|
  .cons (fn := Tryz.f265) (by kernel_rfl) c265 <|
  .cons (fn := Tryz.f273) (by kernel_rfl) c273 <|
  .cons (fn := Tryz.f274) (by kernel_rfl) c274 <|
  .cons (fn := Tryz.f275) (by kernel_rfl) c275 <|
  .cons (fn := Tryz.f276) (by kernel_rfl) c276 <|
  .cons (fn := Tryz.f278) (by kernel_rfl) c278 <|
  .cons (fn := Tryz.f279) (by kernel_rfl) c279 <|
  .cons (fn := Tryz.f280) (by kernel_rfl) c280 <|
  .cons (fn := Tryz.f281) (by kernel_rfl) c281 <|
  .cons (fn := Tryz.f282) (by kernel_rfl) c282 <|
  .cons (fn := Tryz.f283) (by kernel_rfl) c283 <|
  .cons (fn := Tryz.f284) (by kernel_rfl) c284 <|
  .cons (fn := Tryz.f285) (by kernel_rfl) c285 <|
  .cons (fn := Tryz.f286) (by kernel_rfl) c286 <|
  .cons (fn := Tryz.f287) (by kernel_rfl) c287 <|
  .cons (fn := Tryz.f288) (by kernel_rfl) c288 <|
  .cons (fn := Tryz.f289) (by kernel_rfl) c289 <|
  .cons (fn := Tryz.f290) (by kernel_rfl) c290 <|
  .cons (fn := Tryz.f291) (by kernel_rfl) c291 <|
  .cons (fn := Tryz.f292) (by kernel_rfl) c292 <|
  .cons (fn := Tryz.f294) (by kernel_rfl) c294 <|
  .cons (fn := Tryz.f297) (by kernel_rfl) c297 <|
  .cons (fn := Tryz.f298) (by kernel_rfl) c298 <|
  .cons (fn := Tryz.f299) (by kernel_rfl) c299 <|
  .cons (fn := Tryz.f300) (by kernel_rfl) c300 <|
  .cons (fn := Tryz.f301) (by kernel_rfl) c301 <|
  .cons (fn := Tryz.f302) (by kernel_rfl) c302 <|
  .cons (fn := Tryz.f303) (by kernel_rfl) c303 <|
  .cons (fn := Tryz.f304) (by kernel_rfl) c304 <|
  .cons (fn := Tryz.f305) (by kernel_rfl) c305 <|
  .cons (fn := Tryz.f307) (by kernel_rfl) c307 <|
  .cons (fn := Tryz.f309) (by kernel_rfl) c309 <|
  .cons (fn := Tryz.f310) (by kernel_rfl) c310 <|
  .cons (fn := Tryz.f311) (by kernel_rfl) c311 <|
  .cons (fn := Tryz.f312) (by kernel_rfl) c312 <|
  .cons (fn := Tryz.f313) (by kernel_rfl) c313 <|
  .cons (fn := Tryz.f315) (by kernel_rfl) c315 <|
  .cons (fn := Tryz.f316) (by kernel_rfl) c316 <|
  .cons (fn := Tryz.f317) (by kernel_rfl) c317 <|
  .cons (fn := Tryz.f318) (by kernel_rfl) c318 <|
  .cons (fn := Tryz.f320) (by kernel_rfl) c320 <|
  .cons (fn := Tryz.f321) (by kernel_rfl) c321 <|
  .cons (fn := Tryz.f325) (by kernel_rfl) c325 <|
  .cons (fn := Tryz.f326) (by kernel_rfl) c326 <|
  .cons (fn := Tryz.f327) (by kernel_rfl) c327 <|
  .cons (fn := Tryz.f328) (by kernel_rfl) c328 <|
  .cons (fn := Tryz.f329) (by kernel_rfl) c329 <|
  .cons (fn := Tryz.f330) (by kernel_rfl) c330 <|
  .cons (fn := Tryz.f331) (by kernel_rfl) c331 <|
  .cons (fn := Tryz.f332) (by kernel_rfl) c332 <|
  .cons (fn := Tryz.f333) (by kernel_rfl) c333 <|
  .cons (fn := Tryz.f334) (by kernel_rfl) c334 <|
  .cons (fn := Tryz.f335) (by kernel_rfl) c335 <|
  .cons (fn := Tryz.f336) (by kernel_rfl) c336 <|
  .cons (fn := Tryz.f337) (by kernel_rfl) c337 <|
  .cons (fn := Tryz.f338) (by kernel_rfl) c338 <|
  .cons (fn := Tryz.f339) (by kernel_rfl) c339 <|
  .cons (fn := Tryz.f341) (by kernel_rfl) c341 <|
  .cons (fn := Tryz.f342) (by kernel_rfl) c342 <|
  .cons (fn := Tryz.f343) (by kernel_rfl) c343 <|
  .cons (fn := Tryz.f344) (by kernel_rfl) c344 <|
  .cons (fn := Tryz.f345) (by kernel_rfl) c345 <|
  .cons (fn := Tryz.f346) (by kernel_rfl) c346 <|
  .cons (fn := Tryz.f347) (by kernel_rfl) c347 <|
  .cons (fn := Tryz.f348) (by kernel_rfl) c348 <|
  .cons (fn := Tryz.f349) (by kernel_rfl) c349 <|
  .cons (fn := Tryz.f350) (by kernel_rfl) c350 <|
  .cons (fn := Tryz.f351) (by kernel_rfl) c351 <|
  .cons (fn := Tryz.f352) (by kernel_rfl) c352 <|
  .cons (fn := Tryz.f353) (by kernel_rfl) c353 <|
  .cons (fn := Tryz.f355) (by kernel_rfl) c355 <|
  .cons (fn := Tryz.f356) (by kernel_rfl) c356 <|
  .cons (fn := Tryz.f357) (by kernel_rfl) c357 <|
  .cons (fn := Tryz.f359) (by kernel_rfl) c359 <|
  .cons (fn := Tryz.f360) (by kernel_rfl) c360 <|
  .cons (fn := Tryz.f361) (by kernel_rfl) c361 <|
  .cons (fn := Tryz.f362) (by kernel_rfl) c362 <|
  .cons (fn := Tryz.f363) (by kernel_rfl) c363 <|
  .cons (fn := Tryz.f364) (by kernel_rfl) c364 <|
  .cons (fn := Tryz.f365) (by kernel_rfl) c365 <|
  .cons (fn := Tryz.f366) (by kernel_rfl) c366 <|
  .cons (fn := Tryz.f367) (by kernel_rfl) c367 <|
  .cons (fn := Tryz.f368) (by kernel_rfl) c368 <|
  .cons (fn := Tryz.f369) (by kernel_rfl) c369 <|
  .cons (fn := Tryz.f371) (by kernel_rfl) c371 <|
  .cons (fn := Tryz.f372) (by kernel_rfl) c372 <|
  .cons (fn := Tryz.f373) (by kernel_rfl) c373 <|
  .cons (fn := Tryz.f375) (by kernel_rfl) c375 <|
  .cons (fn := Tryz.f376) (by kernel_rfl) c376 <|
  .nil

/-- slices.Clone[[]broadside/api.ID,broadside/api.ID] -/
def cl150 : CloneText Tryz.prog Tryz.f150 45 2 16 (.agg [(.int .i64 0), (.int .i64 0)]) :=
  ⟨_, _, _, _, _, _, _, _, _, 33, 33, 45, rfl, by kernel_rfl, by kernel_rfl, rfl, rfl, rfl, by kernel_rfl, by kernel_rfl, by kernel_rfl, rfl, rfl⟩

/-- slices.Clone[[]broadside/api.Advert,broadside/api.Advert] -/
def cl149 : CloneText Tryz.prog Tryz.f149 86 4 48 (.agg [(.int .i64 0), (.int .i64 0), .nsl, (.int .i64 0)]) :=
  ⟨_, _, _, _, _, _, _, _, _, 32, 32, 86, rfl, by kernel_rfl, by kernel_rfl, rfl, rfl, rfl, by kernel_rfl, by kernel_rfl, by kernel_rfl, rfl, rfl⟩

/-- slices.Clone[[]broadside/api.Own,broadside/api.Own] -/
def cl152 : CloneText Tryz.prog Tryz.f152 151 3 40 (.agg [(.int .i64 0), (.int .i64 0), .nsl]) :=
  ⟨_, _, _, _, _, _, _, _, _, 35, 35, 151, rfl, by kernel_rfl, by kernel_rfl, rfl, rfl, rfl, by kernel_rfl, by kernel_rfl, by kernel_rfl, rfl, rfl⟩

/-- slices.Clone[[]broadside/api.Entry,broadside/api.Entry] -/
def cl151 : CloneText Tryz.prog Tryz.f151 88 7 72 (.agg [(.int .i64 0), (.int .i64 0), (.int .i64 0), (.int .i64 0), .nsl, (.int .i64 0), (.bool false)]) :=
  ⟨_, _, _, _, _, _, _, _, _, 34, 34, 88, rfl, by kernel_rfl, by kernel_rfl, rfl, rfl, rfl, by kernel_rfl, by kernel_rfl, by kernel_rfl, rfl, rfl⟩

/-- slices.Clone[[]broadside/world.live,broadside/world.live] -/
def cl358 : CloneText Tryz.prog Tryz.f358 420 2 32 (.agg [(.int .i64 0), .nsl]) :=
  ⟨_, _, _, _, _, _, _, _, _, 369, 369, 420, rfl, by kernel_rfl, by kernel_rfl, rfl, rfl, rfl, by kernel_rfl, by kernel_rfl, by kernel_rfl, rfl, rfl⟩

/-- slices.Clone[[]broadside/api.Delivery,broadside/api.Delivery] -/
def cl354 : CloneText Tryz.prog Tryz.f354 171 4 48 (.agg [(.int .i64 0), (.int .i64 0), (.int .i64 0), .nsl]) :=
  ⟨_, _, _, _, _, _, _, _, _, 53, 53, 171, rfl, by kernel_rfl, by kernel_rfl, rfl, rfl, rfl, by kernel_rfl, by kernel_rfl, by kernel_rfl, rfl, rfl⟩

/-- slices.Clone[[]broadside/api.Message,broadside/api.Message] -/
def cl225 : CloneText Tryz.prog Tryz.f225 49 7 88 (.agg [(.int .i64 0), (.int .i64 0), (.int .i64 0), (.int .i64 0), (.int .i64 0), .nsl, .nsl]) :=
  ⟨_, _, _, _, _, _, _, _, _, 110, 110, 49, rfl, by kernel_rfl, by kernel_rfl, rfl, rfl, rfl, by kernel_rfl, by kernel_rfl, by kernel_rfl, rfl, rfl⟩

/-- slices.Clone[[]broadside/api.Cross,broadside/api.Cross] -/
def cl153 : CloneText Tryz.prog Tryz.f153 248 4 32 (.agg [(.int .i64 0), (.int .i64 0), (.int .i64 0), (.int .i64 0)]) :=
  ⟨_, _, _, _, _, _, _, _, _, 120, 120, 248, rfl, by kernel_rfl, by kernel_rfl, rfl, rfl, rfl, by kernel_rfl, by kernel_rfl, by kernel_rfl, rfl, rfl⟩

/-- slices.Clone[[]broadside/api.Broker,broadside/api.Broker] -/
def cl158 : CloneText Tryz.prog Tryz.f158 37 6 128 (.agg [(.int .i64 0), .nsl, .nsl, .nsl, .nsl, .nsl]) :=
  ⟨_, _, _, _, _, _, _, _, _, 228, 228, 37, rfl, by kernel_rfl, by kernel_rfl, rfl, rfl, rfl, by kernel_rfl, by kernel_rfl, by kernel_rfl, rfl, rfl⟩

/-- slices.Clone[[]broadside/api.Attr,broadside/api.Attr] -/
def cl277 : CloneText Tryz.prog Tryz.f277 176 4 48 (.agg [(.str []), (.bool false), (.int .i64 0), (.str [])]) :=
  ⟨_, _, _, _, _, _, _, _, _, 47, 47, 176, rfl, by kernel_rfl, by kernel_rfl, rfl, rfl, rfl, by kernel_rfl, by kernel_rfl, by kernel_rfl, rfl, rfl⟩

/-- slices.Clone[[]int,int] -/
def cl148 : CloneText Tryz.prog Tryz.f148 3 1 8 (.int .i64 0) :=
  ⟨_, _, _, _, _, _, _, _, _, 25, 25, 3, rfl, by kernel_rfl, by kernel_rfl, rfl, rfl, rfl, by kernel_rfl, by kernel_rfl, by kernel_rfl, rfl, rfl⟩

/-- slices.Clone[[][2]int,[2]int] -/
def cl223 : CloneText Tryz.prog Tryz.f223 90 2 16 (.agg [(.int .i64 0), (.int .i64 0)]) :=
  ⟨_, _, _, _, _, _, _, _, _, 77, 77, 90, rfl, by kernel_rfl, by kernel_rfl, rfl, rfl, rfl, by kernel_rfl, by kernel_rfl, by kernel_rfl, rfl, rfl⟩

def hooks : List (Nat × Hook) := [(293, overlapsHook), (314, overlapsHook), (308, overlapsHook), (306, overlapsHook), (370, overlapsHook), (374, compareHook), (75, Go.Proofs.YtloabemenciijaaGreatDoor.Err.asHook), (150, cloneHook 45 2 16), (149, cloneHook 86 4 48), (152, cloneHook 151 3 40), (151, cloneHook 88 7 72), (358, cloneHook 420 2 32), (354, cloneHook 171 4 48), (225, inlHook 49 7 88), (153, cloneHook 248 4 32), (158, cloneHook 37 6 128), (277, cloneHook 176 4 48), (148, cloneHook 3 1 8), (223, inlHook 90 2 16)]

theorem hooks_ok : HooksOk Tryz.prog hooks :=
  .cons (overlaps_ok (fn := Tryz.f293) (tS := 35) (tR := 4) (e := 151) (by kernel_rfl) (by kernel_rfl) (by kernel_rfl) (by kernel_rfl) (by kernel_rfl) (by kernel_rfl) (by kernel_rfl)) <|
  .cons (overlaps_ok (fn := Tryz.f314) (tS := 34) (tR := 4) (e := 88) (by kernel_rfl) (by kernel_rfl) (by kernel_rfl) (by kernel_rfl) (by kernel_rfl) (by kernel_rfl) (by kernel_rfl)) <|
  .cons (overlaps_ok (fn := Tryz.f308) (tS := 33) (tR := 4) (e := 45) (by kernel_rfl) (by kernel_rfl) (by kernel_rfl) (by kernel_rfl) (by kernel_rfl) (by kernel_rfl) (by kernel_rfl)) <|
  .cons (overlaps_ok (fn := Tryz.f306) (tS := 32) (tR := 4) (e := 86) (by kernel_rfl) (by kernel_rfl) (by kernel_rfl) (by kernel_rfl) (by kernel_rfl) (by kernel_rfl) (by kernel_rfl)) <|
  .cons (overlaps_ok (fn := Tryz.f370) (tS := 46) (tR := 4) (e := 119) (by kernel_rfl) (by kernel_rfl) (by kernel_rfl) (by kernel_rfl) (by kernel_rfl) (by kernel_rfl) (by kernel_rfl)) <|
  .cons (compare_ok (fn := Tryz.f374) (by kernel_rfl) (by kernel_rfl) (by kernel_rfl) (by kernel_rfl) (by kernel_rfl)) <|
  .cons Go.Proofs.YtloabemenciijaaGreatDoor.Err.asHookOk <|
  .cons (clone_ok (fn := Tryz.f150) (by kernel_rfl) (by kernel_rfl) (by kernel_rfl) cl150) <|
  .cons (clone_ok (fn := Tryz.f149) (by kernel_rfl) (by kernel_rfl) (by kernel_rfl) cl149) <|
  .cons (clone_ok (fn := Tryz.f152) (by kernel_rfl) (by kernel_rfl) (by kernel_rfl) cl152) <|
  .cons (clone_ok (fn := Tryz.f151) (by kernel_rfl) (by kernel_rfl) (by kernel_rfl) cl151) <|
  .cons (clone_ok (fn := Tryz.f358) (by kernel_rfl) (by kernel_rfl) (by kernel_rfl) cl358) <|
  .cons (clone_ok (fn := Tryz.f354) (by kernel_rfl) (by kernel_rfl) (by kernel_rfl) cl354) <|
  .cons (inl_ok (clone_ok (fn := Tryz.f225) (by kernel_rfl) (by kernel_rfl) (by kernel_rfl) cl225)) <|
  .cons (clone_ok (fn := Tryz.f153) (by kernel_rfl) (by kernel_rfl) (by kernel_rfl) cl153) <|
  .cons (clone_ok (fn := Tryz.f158) (by kernel_rfl) (by kernel_rfl) (by kernel_rfl) cl158) <|
  .cons (clone_ok (fn := Tryz.f277) (by kernel_rfl) (by kernel_rfl) (by kernel_rfl) cl277) <|
  .cons (clone_ok (fn := Tryz.f148) (by kernel_rfl) (by kernel_rfl) (by kernel_rfl) cl148) <|
  .cons (inl_ok (clone_ok (fn := Tryz.f223) (by kernel_rfl) (by kernel_rfl) (by kernel_rfl) cl223)) <|
  .nil

def D : DProg := hookedD tab hooks

theorem good : Good Tryz.prog D := hookedD_good (by kernel_rfl) tab_ok hooks_ok

end Go.Dm.Tr7
