/-
The table of functions (TabS). Written by program (wip/tools/table.lean.txt).
-/
import Derived.Test.YtdacnhfdcejahaaGreatDoorTabS0
import Derived.Test.YtdacnhfdcejahaaGreatDoorTabS1
import Derived.Test.YtdacnhfdcejahaaGreatDoorTabS2
import Derived.Test.YtdacnhfdcejahaaGreatDoorTabS3
import Derived.Test.YtdacnhfdcejahaaGreatDoorTabS4
import Derived.Test.YtdacnhfdcejahaaGreatDoorTabS5
import Derived.Test.YtdacnhfdcejahaaGreatDoorTabS6
import Derived.Test.YtdacnhfdcejahaaGreatDoorAsD
namespace Go.Dm.TabS
open Go.Proofs

def tab : List (Nat × DFunc) := [(10, t10), (12, t12), (13, t13), (14, t14), (15, t15), (18, t18), (19, t19), (22, t22), (23, t23), (25, t25), (26, t26), (30, t30), (31, t31), (33, t33), (41, t41), (42, t42), (43, t43), (44, t44), (45, t45), (46, t46), (47, t47), (48, t48), (50, t50), (51, t51), (53, t53), (55, t55), (59, t59), (63, t63), (64, t64), (65, t65), (66, t66), (67, t67), (68, t68), (69, t69), (71, t71), (72, t72), (73, t73), (74, t74), (79, t79), (80, t80), (81, t81), (82, t82), (84, t84), (85, t85), (89, t89), (90, t90), (91, t91), (92, t92), (93, t93), (94, t94), (95, t95), (96, t96), (97, t97), (98, t98), (99, t99), (100, t100), (101, t101), (102, t102), (103, t103), (104, t104), (105, t105), (106, t106), (107, t107), (124, t124), (131, t131), (136, t136), (137, t137), (142, t142), (148, t148), (151, t151), (152, t152), (154, t154), (155, t155), (156, t156), (157, t157), (158, t158), (159, t159), (160, t160), (161, t161), (162, t162), (163, t163), (164, t164), (165, t165), (166, t166), (167, t167), (168, t168), (169, t169), (172, t172), (173, t173), (174, t174), (175, t175), (176, t176), (177, t177), (178, t178), (179, t179), (180, t180), (181, t181), (182, t182), (183, t183), (184, t184), (185, t185), (186, t186), (187, t187), (188, t188), (189, t189), (190, t190), (191, t191), (192, t192), (193, t193), (194, t194), (195, t195), (196, t196), (197, t197), (198, t198), (199, t199), (200, t200), (201, t201), (202, t202), (203, t203), (204, t204), (205, t205), (206, t206), (210, t210), (212, t212), (213, t213), (214, t214), (215, t215), (217, t217), (218, t218), (219, t219), (223, t223), (225, t225), (232, t232), (233, t233), (234, t234), (235, t235), (236, t236), (237, t237), (238, t238), (239, t239), (241, t241), (242, t242), (243, t243), (244, t244), (245, t245), (246, t246), (247, t247), (249, t249), (250, t250), (251, t251), (252, t252), (253, t253), (254, t254), (255, t255), (256, t256), (257, t257), (258, t258), (259, t259), (260, t260), (261, t261), (262, t262), (263, t263), (264, t264), (266, t266), (267, t267), (268, t268), (270, t270), (271, t271), (272, t272), (273, t273), (274, t274), (275, t275), (276, t276), (277, t277), (279, t279), (280, t280), (281, t281), (282, t282), (283, t283), (284, t284), (285, t285), (286, t286), (287, t287), (288, t288), (289, t289), (292, t292), (296, t296), (297, t297), (298, t298), (300, t300), (301, t301), (302, t302), (303, t303), (304, t304), (305, t305), (306, t306), (307, t307), (308, t308), (309, t309), (310, t310), (311, t311), (312, t312), (313, t313), (314, t314), (315, t315), (316, t316), (318, t318), (319, t319), (320, t320), (321, t321), (322, t322), (323, t323), (324, t324), (325, t325), (326, t326), (327, t327), (328, t328), (329, t329), (330, t330), (331, t331), (332, t332), (333, t333), (334, t334), (336, t336), (337, t337), (338, t338), (339, t339), (340, t340), (342, t342), (343, t343), (344, t344), (345, t345), (346, t346), (347, t347), (348, t348), (349, t349), (350, t350), (351, t351), (352, t352), (353, t353)]

set_option maxRecDepth 100000 in
theorem tab_ok : TabOk Tryz.prog tab :=
  .cons (fn := Tryz.f10) (by kernel_rfl) c10 <|
  .cons (fn := Tryz.f12) (by kernel_rfl) c12 <|
  .cons (fn := Tryz.f13) (by kernel_rfl) c13 <|
  .cons (fn := Tryz.f14) (by kernel_rfl) c14 <|
  .cons (fn := Tryz.f15) (by kernel_rfl) c15 <|
  .cons (fn := Tryz.f18) (by kernel_rfl) c18 <|
  .cons (fn := Tryz.f19) (by kernel_rfl) c19 <|
  .cons (fn := Tryz.f22) (by kernel_rfl) c22 <|
  .cons (fn := Tryz.f23) (by kernel_rfl) c23 <|
  .cons (fn := Tryz.f25) (by kernel_rfl) c25 <|
  .cons (fn := Tryz.f26) (by kernel_rfl) c26 <|
  .cons (fn := Tryz.f30) (by kernel_rfl) c30 <|
  .cons (fn := Tryz.f31) (by kernel_rfl) c31 <|
  .cons (fn := Tryz.f33) (by kernel_rfl) c33 <|
  .cons (fn := Tryz.f41) (by kernel_rfl) c41 <|
  .cons (fn := Tryz.f42) (by kernel_rfl) c42 <|
  .cons (fn := Tryz.f43) (by kernel_rfl) c43 <|
  .cons (fn := Tryz.f44) (by kernel_rfl) c44 <|
  .cons (fn := Tryz.f45) (by kernel_rfl) c45 <|
  .cons (fn := Tryz.f46) (by kernel_rfl) c46 <|
  .cons (fn := Tryz.f47) (by kernel_rfl) c47 <|
  .cons (fn := Tryz.f48) (by kernel_rfl) c48 <|
  .cons (fn := Tryz.f50) (by kernel_rfl) c50 <|
  .cons (fn := Tryz.f51) (by kernel_rfl) c51 <|
  .cons (fn := Tryz.f53) (by kernel_rfl) c53 <|
  .cons (fn := Tryz.f55) (by kernel_rfl) c55 <|
  .cons (fn := Tryz.f59) (by kernel_rfl) c59 <|
  .cons (fn := Tryz.f63) (by kernel_rfl) c63 <|
  .cons (fn := Tryz.f64) (by kernel_rfl) c64 <|
  .cons (fn := Tryz.f65) (by kernel_rfl) c65 <|
  .cons (fn := Tryz.f66) (by kernel_rfl) c66 <|
  .cons (fn := Tryz.f67) (by kernel_rfl) c67 <|
  .cons (fn := Tryz.f68) (by kernel_rfl) c68 <|
  .cons (fn := Tryz.f69) (by kernel_rfl) c69 <|
  .cons (fn := Tryz.f71) (by kernel_rfl) c71 <|
  .cons (fn := Tryz.f72) (by kernel_rfl) c72 <|
  .cons (fn := Tryz.f73) (by kernel_rfl) c73 <|
  .cons (fn := Tryz.f74) (by kernel_rfl) c74 <|
  .cons (fn := Tryz.f79) (by kernel_rfl) c79 <|
  .cons (fn := Tryz.f80) (by kernel_rfl) c80 <|
  .cons (fn := Tryz.f81) (by kernel_rfl) c81 <|
  .cons (fn := Tryz.f82) (by kernel_rfl) c82 <|
  .cons (fn := Tryz.f84) (by kernel_rfl) c84 <|
  .cons (fn := Tryz.f85) (by kernel_rfl) c85 <|
  .cons (fn := Tryz.f89) (by kernel_rfl) c89 <|
  .cons (fn := Tryz.f90) (by kernel_rfl) c90 <|
  .cons (fn := Tryz.f91) (by kernel_rfl) c91 <|
  .cons (fn := Tryz.f92) (by kernel_rfl) c92 <|
  .cons (fn := Tryz.f93) (by kernel_rfl) c93 <|
  .cons (fn := Tryz.f94) (by kernel_rfl) c94 <|
  .cons (fn := Tryz.f95) (by kernel_rfl) c95 <|
  .cons (fn := Tryz.f96) (by kernel_rfl) c96 <|
  .cons (fn := Tryz.f97) (by kernel_rfl) c97 <|
  .cons (fn := Tryz.f98) (by kernel_rfl) c98 <|
  .cons (fn := Tryz.f99) (by kernel_rfl) c99 <|
  .cons (fn := Tryz.f100) (by kernel_rfl) c100 <|
  .cons (fn := Tryz.f101) (by kernel_rfl) c101 <|
  .cons (fn := Tryz.f102) (by kernel_rfl) c102 <|
  .cons (fn := Tryz.f103) (by kernel_rfl) c103 <|
  .cons (fn := Tryz.f104) (by kernel_rfl) c104 <|
  .cons (fn := Tryz.f105) (by kernel_rfl) c105 <|
  .cons (fn := Tryz.f106) (by kernel_rfl) c106 <|
  .cons (fn := Tryz.f107) (by kernel_rfl) c107 <|
  .cons (fn := Tryz.f124) (by kernel_rfl) c124 <|
  .cons (fn := Tryz.f131) (by kernel_rfl) c131 <|
  .cons (fn := Tryz.f136) (by kernel_rfl) c136 <|
  .cons (fn := Tryz.f137) (by kernel_rfl) c137 <|
  .cons (fn := Tryz.f142) (by kernel_rfl) c142 <|
  .cons (fn := Tryz.f148) (by kernel_rfl) c148 <|
  .cons (fn := Tryz.f151) (by kernel_rfl) c151 <|
  .cons (fn := Tryz.f152) (by kernel_rfl) c152 <|
  .cons (fn := Tryz.f154) (by kernel_rfl) c154 <|
  .cons (fn := Tryz.f155) (by kernel_rfl) c155 <|
  .cons (fn := Tryz.f156) (by kernel_rfl) c156 <|
  .cons (fn := Tryz.f157) (by kernel_rfl) c157 <|
  .cons (fn := Tryz.f158) (by kernel_rfl) c158 <|
  .cons (fn := Tryz.f159) (by kernel_rfl) c159 <|
  .cons (fn := Tryz.f160) (by kernel_rfl) c160 <|
  .cons (fn := Tryz.f161) (by kernel_rfl) c161 <|
  .cons (fn := Tryz.f162) (by kernel_rfl) c162 <|
  .cons (fn := Tryz.f163) (by kernel_rfl) c163 <|
  .cons (fn := Tryz.f164) (by kernel_rfl) c164 <|
  .cons (fn := Tryz.f165) (by kernel_rfl) c165 <|
  .cons (fn := Tryz.f166) (by kernel_rfl) c166 <|
  .cons (fn := Tryz.f167) (by kernel_rfl) c167 <|
  .cons (fn := Tryz.f168) (by kernel_rfl) c168 <|
  .cons (fn := Tryz.f169) (by kernel_rfl) c169 <|
  .cons (fn := Tryz.f172) (by kernel_rfl) c172 <|
  .cons (fn := Tryz.f173) (by kernel_rfl) c173 <|
  .cons (fn := Tryz.f174) (by kernel_rfl) c174 <|
  .cons (fn := Tryz.f175) (by kernel_rfl) c175 <|
  .cons (fn := Tryz.f176) (by kernel_rfl) c176 <|
  .cons (fn := Tryz.f177) (by kernel_rfl) c177 <|
  .cons (fn := Tryz.f178) (by kernel_rfl) c178 <|
  .cons (fn := Tryz.f179) (by kernel_rfl) c179 <|
  .cons (fn := Tryz.f180) (by kernel_rfl) c180 <|
  .cons (fn := Tryz.f181) (by kernel_rfl) c181 <|
  .cons (fn := Tryz.f182) (by kernel_rfl) c182 <|
  .cons (fn := Tryz.f183) (by kernel_rfl) c183 <|
  .cons (fn := Tryz.f184) (by kernel_rfl) c184 <|
  .cons (fn := Tryz.f185) (by kernel_rfl) c185 <|
  .cons (fn := Tryz.f186) (by kernel_rfl) c186 <|
  .cons (fn := Tryz.f187) (by kernel_rfl) c187 <|
  .cons (fn := Tryz.f188) (by kernel_rfl) c188 <|
  .cons (fn := Tryz.f189) (by kernel_rfl) c189 <|
  .cons (fn := Tryz.f190) (by kernel_rfl) c190 <|
  .cons (fn := Tryz.f191) (by kernel_rfl) c191 <|
  .cons (fn := Tryz.f192) (by kernel_rfl) c192 <|
  .cons (fn := Tryz.f193) (by kernel_rfl) c193 <|
  .cons (fn := Tryz.f194) (by kernel_rfl) c194 <|
  .cons (fn := Tryz.f195) (by kernel_rfl) c195 <|
  .cons (fn := Tryz.f196) (by kernel_rfl) c196 <|
  .cons (fn := Tryz.f197) (by kernel_rfl) c197 <|
  .cons (fn := Tryz.f198) (by kernel_rfl) c198 <|
  .cons (fn := Tryz.f199) (by kernel_rfl) c199 <|
  .cons (fn := Tryz.f200) (by kernel_rfl) c200 <|
  .cons (fn := Tryz.f201) (by kernel_rfl) c201 <|
  .cons (fn := Tryz.f202) (by kernel_rfl) c202 <|
  .cons (fn := Tryz.f203) (by kernel_rfl) c203 <|
  .cons (fn := Tryz.f204) (by kernel_rfl) c204 <|
  .cons (fn := Tryz.f205) (by kernel_rfl) c205 <|
  .cons (fn := Tryz.f206) (by kernel_rfl) c206 <|
  .cons (fn := Tryz.f210) (by kernel_rfl) c210 <|
  .cons (fn := Tryz.f212) (by kernel_rfl) c212 <|
  .cons (fn := Tryz.f213) (by kernel_rfl) c213 <|
  .cons (fn := Tryz.f214) (by kernel_rfl) c214 <|
  .cons (fn := Tryz.f215) (by kernel_rfl) c215 <|
  .cons (fn := Tryz.f217) (by kernel_rfl) c217 <|
  .cons (fn := Tryz.f218) (by kernel_rfl) c218 <|
  .cons (fn := Tryz.f219) (by kernel_rfl) c219 <|
  .cons (fn := Tryz.f223) (by kernel_rfl) c223 <|
  .cons (fn := Tryz.f225) (by kernel_rfl) c225 <|
  .cons (fn := Tryz.f232) (by kernel_rfl) c232 <|
  .cons (fn := Tryz.f233) (by kernel_rfl) c233 <|
  .cons (fn := Tryz.f234) (by kernel_rfl) c234 <|
  .cons (fn := Tryz.f235) (by kernel_rfl) c235 <|
  .cons (fn := Tryz.f236) (by kernel_rfl) c236 <|
  .cons (fn := Tryz.f237) (by kernel_rfl) c237 <|
  .cons (fn := Tryz.f238) (by kernel_rfl) c238 <|
  .cons (fn := Tryz.f239) (by kernel_rfl) c239 <|
  .cons (fn := Tryz.f241) (by kernel_rfl) c241 <|
  .cons (fn := Tryz.f242) (by kernel_rfl) c242 <|
  .cons (fn := Tryz.f243) (by kernel_rfl) c243 <|
  .cons (fn := Tryz.f244) (by kernel_rfl) c244 <|
  .cons (fn := Tryz.f245) (by kernel_rfl) c245 <|
  .cons (fn := Tryz.f246) (by kernel_rfl) c246 <|
  .cons (fn := Tryz.f247) (by kernel_rfl) c247 <|
  .cons (fn := Tryz.f249) (by kernel_rfl) c249 <|
  .cons (fn := Tryz.f250) (by kernel_rfl) c250 <|
  .cons (fn := Tryz.f251) (by kernel_rfl) c251 <|
  .cons (fn := Tryz.f252) (by kernel_rfl) c252 <|
  .cons (fn := Tryz.f253) (by kernel_rfl) c253 <|
  .cons (fn := Tryz.f254) (by kernel_rfl) c254 <|
  .cons (fn := Tryz.f255) (by kernel_rfl) c255 <|
  .cons (fn := Tryz.f256) (by kernel_rfl) c256 <|
  .cons (fn := Tryz.f257) (by kernel_rfl) c257 <|
  .cons (fn := Tryz.f258) (by kernel_rfl) c258 <|
  .cons (fn := Tryz.f259) (by kernel_rfl) c259 <|
  .cons (fn := Tryz.f260) (by kernel_rfl) c260 <|
  .cons (fn := Tryz.f261) (by kernel_rfl) c261 <|
  .cons (fn := Tryz.f262) (by kernel_rfl) c262 <|
  .cons (fn := Tryz.f263) (by kernel_rfl) c263 <|
  .cons (fn := Tryz.f264) (by kernel_rfl) c264 <|
  .cons (fn := Tryz.f266) (by kernel_rfl) c266 <|
  .cons (fn := Tryz.f267) (by kernel_rfl) c267 <|
  .cons (fn := Tryz.f268) (by kernel_rfl) c268 <|
  .cons (fn := Tryz.f270) (by kernel_rfl) c270 <|
  .cons (fn := Tryz.f271) (by kernel_rfl) c271 <|
  .cons (fn := Tryz.f272) (by kernel_rfl) c272 <|
  .cons (fn := Tryz.f273) (by kernel_rfl) c273 <|
  .cons (fn := Tryz.f274) (by kernel_rfl) c274 <|
  .cons (fn := Tryz.f275) (by kernel_rfl) c275 <|
  .cons (fn := Tryz.f276) (by kernel_rfl) c276 <|
  .cons (fn := Tryz.f277) (by kernel_rfl) c277 <|
  .cons (fn := Tryz.f279) (by kernel_rfl) c279 <|
  .cons (fn := Tryz.f280) (by kernel_rfl) c280 <|
  .cons (fn := Tryz.f281) (by kernel_rfl) c281 <|
  .cons (fn := Tryz.f282) (by kernel_rfl) c282 <|
  .cons (fn := Tryz.f283) (by kernel_rfl) c283 <|
  .cons (fn := Tryz.f284) (by kernel_rfl) c284 <|
  .cons (fn := Tryz.f285) (by kernel_rfl) c285 <|
  .cons (fn := Tryz.f286) (by kernel_rfl) c286 <|
  .cons (fn := Tryz.f287) (by kernel_rfl) c287 <|
  .cons (fn := Tryz.f288) (by kernel_rfl) c288 <|
  .cons (fn := Tryz.f289) (by kernel_rfl) c289 <|
  .cons (fn := Tryz.f292) (by kernel_rfl) c292 <|
  .cons (fn := Tryz.f296) (by kernel_rfl) c296 <|
  .cons (fn := Tryz.f297) (by kernel_rfl) c297 <|
  .cons (fn := Tryz.f298) (by kernel_rfl) c298 <|
  .cons (fn := Tryz.f300) (by kernel_rfl) c300 <|
  .cons (fn := Tryz.f301) (by kernel_rfl) c301 <|
  .cons (fn := Tryz.f302) (by kernel_rfl) c302 <|
  .cons (fn := Tryz.f303) (by kernel_rfl) c303 <|
  .cons (fn := Tryz.f304) (by kernel_rfl) c304 <|
  .cons (fn := Tryz.f305) (by kernel_rfl) c305 <|
  .cons (fn := Tryz.f306) (by kernel_rfl) c306 <|
  .cons (fn := Tryz.f307) (by kernel_rfl) c307 <|
  .cons (fn := Tryz.f308) (by kernel_rfl) c308 <|
  .cons (fn := Tryz.f309) (by kernel_rfl) c309 <|
  .cons (fn := Tryz.f310) (by kernel_rfl) c310 <|
  .cons (fn := Tryz.f311) (by kernel_rfl) c311 <|
  .cons (fn := Tryz.f312) (by kernel_rfl) c312 <|
  .cons (fn := Tryz.f313) (by kernel_rfl) c313 <|
  .cons (fn := Tryz.f314) (by kernel_rfl) c314 <|
  .cons (fn := Tryz.f315) (by kernel_rfl) c315 <|
  .cons (fn := Tryz.f316) (by kernel_rfl) c316 <|
  .cons (fn := Tryz.f318) (by kernel_rfl) c318 <|
  .cons (fn := Tryz.f319) (by kernel_rfl) c319 <|
  .cons (fn := Tryz.f320) (by kernel_rfl) c320 <|
  .cons (fn := Tryz.f321) (by kernel_rfl) c321 <|
  .cons (fn := Tryz.f322) (by kernel_rfl) c322 <|
  .cons (fn := Tryz.f323) (by kernel_rfl) c323 <|
  .cons (fn := Tryz.f324) (by kernel_rfl) c324 <|
  .cons (fn := Tryz.f325) (by kernel_rfl) c325 <|
  .cons (fn := Tryz.f326) (by kernel_rfl) c326 <|
  .cons (fn := Tryz.f327) (by kernel_rfl) c327 <|
  .cons (fn := Tryz.f328) (by kernel_rfl) c328 <|
  .cons (fn := Tryz.f329) (by kernel_rfl) c329 <|
  .cons (fn := Tryz.f330) (by kernel_rfl) c330 <|
  .cons (fn := Tryz.f331) (by kernel_rfl) c331 <|
  .cons (fn := Tryz.f332) (by kernel_rfl) c332 <|
  .cons (fn := Tryz.f333) (by kernel_rfl) c333 <|
  .cons (fn := Tryz.f334) (by kernel_rfl) c334 <|
  .cons (fn := Tryz.f336) (by kernel_rfl) c336 <|
  .cons (fn := Tryz.f337) (by kernel_rfl) c337 <|
  .cons (fn := Tryz.f338) (by kernel_rfl) c338 <|
  .cons (fn := Tryz.f339) (by kernel_rfl) c339 <|
  .cons (fn := Tryz.f340) (by kernel_rfl) c340 <|
  .cons (fn := Tryz.f342) (by kernel_rfl) c342 <|
  .cons (fn := Tryz.f343) (by kernel_rfl) c343 <|
  .cons (fn := Tryz.f344) (by kernel_rfl) c344 <|
  .cons (fn := Tryz.f345) (by kernel_rfl) c345 <|
  .cons (fn := Tryz.f346) (by kernel_rfl) c346 <|
  .cons (fn := Tryz.f347) (by kernel_rfl) c347 <|
  .cons (fn := Tryz.f348) (by kernel_rfl) c348 <|
  .cons (fn := Tryz.f349) (by kernel_rfl) c349 <|
  .cons (fn := Tryz.f350) (by kernel_rfl) c350 <|
  .cons (fn := Tryz.f351) (by kernel_rfl) c351 <|
  .cons (fn := Tryz.f352) (by kernel_rfl) c352 <|
  .cons (fn := Tryz.f353) (by kernel_rfl) c353 <|
  .nil

/-- slices.Clone[[]broadside/api.ID,broadside/api.ID] -/
def cl76 : CloneText Tryz.prog Tryz.f76 45 2 16 (.agg [(.int .i64 0), (.int .i64 0)]) :=
  ⟨_, _, _, _, _, _, _, _, _, 24, 24, 45, rfl, by kernel_rfl, by kernel_rfl, rfl, rfl, rfl, by kernel_rfl, by kernel_rfl, by kernel_rfl, rfl, rfl⟩

/-- slices.Clone[[]broadside/api.Advert,broadside/api.Advert] -/
def cl75 : CloneText Tryz.prog Tryz.f75 70 4 48 (.agg [(.int .i64 0), (.int .i64 0), .nsl, (.int .i64 0)]) :=
  ⟨_, _, _, _, _, _, _, _, _, 23, 23, 70, rfl, by kernel_rfl, by kernel_rfl, rfl, rfl, rfl, by kernel_rfl, by kernel_rfl, by kernel_rfl, rfl, rfl⟩

/-- slices.Clone[[]broadside/api.Own,broadside/api.Own] -/
def cl78 : CloneText Tryz.prog Tryz.f78 159 3 40 (.agg [(.int .i64 0), (.int .i64 0), .nsl]) :=
  ⟨_, _, _, _, _, _, _, _, _, 26, 26, 159, rfl, by kernel_rfl, by kernel_rfl, rfl, rfl, rfl, by kernel_rfl, by kernel_rfl, by kernel_rfl, rfl, rfl⟩

/-- slices.Clone[[]broadside/api.Entry,broadside/api.Entry] -/
def cl77 : CloneText Tryz.prog Tryz.f77 156 7 72 (.agg [(.int .i64 0), (.int .i64 0), (.int .i64 0), (.int .i64 0), .nsl, (.int .i64 0), (.bool false)]) :=
  ⟨_, _, _, _, _, _, _, _, _, 25, 25, 156, rfl, by kernel_rfl, by kernel_rfl, rfl, rfl, rfl, by kernel_rfl, by kernel_rfl, by kernel_rfl, rfl, rfl⟩

/-- slices.Clone[[]broadside/world.live,broadside/world.live] -/
def cl335 : CloneText Tryz.prog Tryz.f335 414 2 32 (.agg [(.int .i64 0), .nsl]) :=
  ⟨_, _, _, _, _, _, _, _, _, 350, 350, 414, rfl, by kernel_rfl, by kernel_rfl, rfl, rfl, rfl, by kernel_rfl, by kernel_rfl, by kernel_rfl, rfl, rfl⟩

/-- slices.Clone[[]broadside/api.Delivery,broadside/api.Delivery] -/
def cl170 : CloneText Tryz.prog Tryz.f170 265 4 48 (.agg [(.int .i64 0), (.int .i64 0), (.int .i64 0), .nsl]) :=
  ⟨_, _, _, _, _, _, _, _, _, 30, 30, 265, rfl, by kernel_rfl, by kernel_rfl, rfl, rfl, rfl, by kernel_rfl, by kernel_rfl, by kernel_rfl, rfl, rfl⟩

/-- slices.Clone[[]broadside/api.Attr,broadside/api.Attr] -/
def cl248 : CloneText Tryz.prog Tryz.f248 293 4 48 (.agg [(.str []), (.bool false), (.int .i64 0), (.str [])]) :=
  ⟨_, _, _, _, _, _, _, _, _, 47, 47, 293, rfl, by kernel_rfl, by kernel_rfl, rfl, rfl, rfl, by kernel_rfl, by kernel_rfl, by kernel_rfl, rfl, rfl⟩

/-- slices.Clone[[]int,int] -/
def cl49 : CloneText Tryz.prog Tryz.f49 3 1 8 (.int .i64 0) :=
  ⟨_, _, _, _, _, _, _, _, _, 22, 22, 3, rfl, by kernel_rfl, by kernel_rfl, rfl, rfl, rfl, by kernel_rfl, by kernel_rfl, by kernel_rfl, rfl, rfl⟩

/-- slices.Clone[[][2]int,[2]int] -/
def cl153 : CloneText Tryz.prog Tryz.f153 64 2 16 (.agg [(.int .i64 0), (.int .i64 0)]) :=
  ⟨_, _, _, _, _, _, _, _, _, 54, 54, 64, rfl, by kernel_rfl, by kernel_rfl, rfl, rfl, rfl, by kernel_rfl, by kernel_rfl, by kernel_rfl, rfl, rfl⟩

def hooks : List (Nat × Hook) := [(240, overlapsHook), (299, overlapsHook), (295, overlapsHook), (317, overlapsHook), (269, overlapsHook), (265, overlapsHook), (52, Go.Proofs.YtdacnhfdcejahaaGreatDoor.Err.asHook), (76, cloneHook 45 2 16), (75, cloneHook 70 4 48), (78, cloneHook 159 3 40), (77, cloneHook 156 7 72), (335, cloneHook 414 2 32), (170, cloneHook 265 4 48), (248, cloneHook 293 4 48), (49, cloneHook 3 1 8), (153, cloneHook 64 2 16)]

theorem hooks_ok : HooksOk Tryz.prog hooks :=
  .cons (overlaps_ok (fn := Tryz.f240) (tS := 26) (tR := 4) (e := 159) (by kernel_rfl) (by kernel_rfl) (by kernel_rfl) (by kernel_rfl) (by kernel_rfl) (by kernel_rfl) (by kernel_rfl)) <|
  .cons (overlaps_ok (fn := Tryz.f299) (tS := 25) (tR := 4) (e := 156) (by kernel_rfl) (by kernel_rfl) (by kernel_rfl) (by kernel_rfl) (by kernel_rfl) (by kernel_rfl) (by kernel_rfl)) <|
  .cons (overlaps_ok (fn := Tryz.f295) (tS := 24) (tR := 4) (e := 45) (by kernel_rfl) (by kernel_rfl) (by kernel_rfl) (by kernel_rfl) (by kernel_rfl) (by kernel_rfl) (by kernel_rfl)) <|
  .cons (overlaps_ok (fn := Tryz.f317) (tS := 46) (tR := 4) (e := 288) (by kernel_rfl) (by kernel_rfl) (by kernel_rfl) (by kernel_rfl) (by kernel_rfl) (by kernel_rfl) (by kernel_rfl)) <|
  .cons (overlaps_ok (fn := Tryz.f269) (tS := 126) (tR := 4) (e := 278) (by kernel_rfl) (by kernel_rfl) (by kernel_rfl) (by kernel_rfl) (by kernel_rfl) (by kernel_rfl) (by kernel_rfl)) <|
  .cons (overlaps_ok (fn := Tryz.f265) (tS := 23) (tR := 4) (e := 70) (by kernel_rfl) (by kernel_rfl) (by kernel_rfl) (by kernel_rfl) (by kernel_rfl) (by kernel_rfl) (by kernel_rfl)) <|
  .cons Go.Proofs.YtdacnhfdcejahaaGreatDoor.Err.asHookOk <|
  .cons (clone_ok (fn := Tryz.f76) (by kernel_rfl) (by kernel_rfl) (by kernel_rfl) cl76) <|
  .cons (clone_ok (fn := Tryz.f75) (by kernel_rfl) (by kernel_rfl) (by kernel_rfl) cl75) <|
  .cons (clone_ok (fn := Tryz.f78) (by kernel_rfl) (by kernel_rfl) (by kernel_rfl) cl78) <|
  .cons (clone_ok (fn := Tryz.f77) (by kernel_rfl) (by kernel_rfl) (by kernel_rfl) cl77) <|
  .cons (clone_ok (fn := Tryz.f335) (by kernel_rfl) (by kernel_rfl) (by kernel_rfl) cl335) <|
  .cons (clone_ok (fn := Tryz.f170) (by kernel_rfl) (by kernel_rfl) (by kernel_rfl) cl170) <|
  .cons (clone_ok (fn := Tryz.f248) (by kernel_rfl) (by kernel_rfl) (by kernel_rfl) cl248) <|
  .cons (clone_ok (fn := Tryz.f49) (by kernel_rfl) (by kernel_rfl) (by kernel_rfl) cl49) <|
  .cons (clone_ok (fn := Tryz.f153) (by kernel_rfl) (by kernel_rfl) (by kernel_rfl) cl153) <|
  .nil

def D : DProg := hookedD tab hooks

theorem good : Good Tryz.prog D := hookedD_good (by kernel_rfl) tab_ok hooks_ok

end Go.Dm.TabS
