/-
The table of functions (TabW). Written by program (wip/tools/table.lean.txt).
-/
import Derived.Test.YtkhmbjajaibinaaGreatDoorTabW0
import Derived.Test.YtkhmbjajaibinaaGreatDoorTabW1
import Derived.Test.YtkhmbjajaibinaaGreatDoorTabW2
import Derived.Test.YtkhmbjajaibinaaGreatDoorTabW3
import Derived.Test.YtkhmbjajaibinaaGreatDoorTabW4
import Derived.Test.YtkhmbjajaibinaaGreatDoorTabW5
import Derived.Test.YtkhmbjajaibinaaGreatDoorAsD
namespace Go.Dm.TabW
open Go.Proofs

def tab : List (Nat × DFunc) := [(3, t3), (8, t8), (9, t9), (10, t10), (11, t11), (12, t12), (13, t13), (15, t15), (18, t18), (19, t19), (20, t20), (21, t21), (28, t28), (33, t33), (34, t34), (35, t35), (36, t36), (38, t38), (39, t39), (40, t40), (41, t41), (42, t42), (44, t44), (45, t45), (46, t46), (47, t47), (48, t48), (49, t49), (50, t50), (51, t51), (52, t52), (53, t53), (55, t55), (63, t63), (64, t64), (65, t65), (66, t66), (67, t67), (68, t68), (71, t71), (75, t75), (76, t76), (77, t77), (83, t83), (84, t84), (87, t87), (88, t88), (89, t89), (90, t90), (91, t91), (92, t92), (93, t93), (94, t94), (95, t95), (96, t96), (97, t97), (98, t98), (99, t99), (100, t100), (101, t101), (103, t103), (104, t104), (105, t105), (106, t106), (113, t113), (114, t114), (115, t115), (116, t116), (120, t120), (127, t127), (132, t132), (133, t133), (138, t138), (145, t145), (146, t146), (147, t147), (148, t148), (149, t149), (150, t150), (152, t152), (156, t156), (157, t157), (158, t158), (159, t159), (160, t160), (161, t161), (162, t162), (163, t163), (164, t164), (165, t165), (166, t166), (167, t167), (168, t168), (169, t169), (171, t171), (172, t172), (173, t173), (174, t174), (175, t175), (176, t176), (179, t179), (180, t180), (181, t181), (182, t182), (183, t183), (184, t184), (185, t185), (186, t186), (187, t187), (188, t188), (190, t190), (191, t191), (192, t192), (194, t194), (195, t195), (204, t204), (205, t205), (206, t206), (207, t207), (208, t208), (209, t209), (210, t210), (211, t211), (212, t212), (213, t213), (214, t214), (215, t215), (216, t216), (217, t217), (218, t218), (219, t219), (220, t220), (221, t221), (222, t222), (223, t223), (224, t224), (225, t225), (226, t226), (227, t227), (228, t228), (229, t229), (230, t230), (231, t231), (232, t232), (233, t233), (235, t235), (237, t237), (238, t238), (239, t239), (240, t240), (242, t242), (243, t243), (244, t244), (245, t245), (247, t247), (248, t248), (249, t249), (250, t250), (251, t251), (252, t252), (253, t253), (254, t254), (258, t258), (259, t259), (260, t260), (261, t261), (262, t262), (263, t263), (264, t264), (265, t265), (266, t266), (267, t267), (268, t268), (269, t269), (270, t270), (271, t271), (272, t272), (273, t273), (274, t274), (275, t275), (276, t276), (278, t278), (279, t279), (280, t280), (281, t281), (282, t282), (283, t283), (284, t284), (285, t285), (286, t286), (287, t287), (288, t288), (289, t289), (290, t290), (291, t291), (292, t292), (293, t293), (294, t294), (295, t295), (296, t296), (297, t297), (298, t298), (300, t300), (302, t302), (303, t303), (304, t304), (305, t305), (306, t306), (307, t307), (308, t308), (310, t310), (311, t311)]

set_option maxRecDepth 100000 in
theorem tab_ok : TabOk Tryz.prog tab :=
  .cons (fn := Tryz.f3) (by kernel_rfl) c3 <|
  .cons (fn := Tryz.f8) (by kernel_rfl) c8 <|
  .cons (fn := Tryz.f9) (by kernel_rfl) c9 <|
  .cons (fn := Tryz.f10) (by kernel_rfl) c10 <|
  .cons (fn := Tryz.f11) (by kernel_rfl) c11 <|
  .cons (fn := Tryz.f12) (by kernel_rfl) c12 <|
  .cons (fn := Tryz.f13) (by kernel_rfl) c13 <|
  .cons (fn := Tryz.f15) (by kernel_rfl) c15 <|
  .cons (fn := Tryz.f18) (by kernel_rfl) c18 <|
  .cons (fn := Tryz.f19) (by kernel_rfl) c19 <|
  .cons (fn := Tryz.f20) (by kernel_rfl) c20 <|
  .cons (fn := Tryz.f21) (by kernel_rfl) c21 <|
  .cons (fn := Tryz.f28) (by kernel_rfl) c28 <|
  .cons (fn := Tryz.f33) (by kernel_rfl) c33 <|
  .cons (fn := Tryz.f34) (by kernel_rfl) c34 <|
  .cons (fn := Tryz.f35) (by kernel_rfl) c35 <|
  .cons (fn := Tryz.f36) (by kernel_rfl) c36 <|
  .cons (fn := Tryz.f38) (by kernel_rfl) c38 <|
  .cons (fn := Tryz.f39) (by kernel_rfl) c39 <|
  .cons (fn := Tryz.f40) (by kernel_rfl) c40 <|
  .cons (fn := Tryz.f41) (by kernel_rfl) c41 <|
  .cons (fn := Tryz.f42) (by kernel_rfl) c42 <|
  .cons (fn := Tryz.f44) (by kernel_rfl) c44 <|
  .cons (fn := Tryz.f45) (by kernel_rfl) c45 <|
  .cons (fn := Tryz.f46) (by kernel_rfl) c46 <|
  .cons (fn := Tryz.f47) (by kernel_rfl) c47 <|
  .cons (fn := Tryz.f48) (by kernel_rfl) c48 <|
  .cons (fn := Tryz.f49) (by kernel_rfl) c49 <|
  .cons (fn := Tryz.f50) (by kernel_rfl) c50 <|
  .cons (fn := Tryz.f51) (by kernel_rfl) c51 <|
  .cons (fn := Tryz.f52) (by kernel_rfl) c52 <|
  .cons (fn := Tryz.f53) (by kernel_rfl) c53 <|
  .cons (fn := Tryz.f55) (by kernel_rfl) c55 <|
  .cons (fn := Tryz.f63) (by kernel_rfl) c63 <|
  .cons (fn := Tryz.f64) (by kernel_rfl) c64 <|
  .cons (fn := Tryz.f65) (by kernel_rfl) c65 <|
  .cons (fn := Tryz.f66) (by kernel_rfl) c66 <|
  .cons (fn := Tryz.f67) (by kernel_rfl) c67 <|
  .cons (fn := Tryz.f68) (by kernel_rfl) c68 <|
  .cons (fn := Tryz.f71) (by kernel_rfl) c71 <|
  .cons (fn := Tryz.f75) (by kernel_rfl) c75 <|
  .cons (fn := Tryz.f76) (by kernel_rfl) c76 <|
  .cons (fn := Tryz.f77) (by kernel_rfl) c77 <|
  .cons (fn := Tryz.f83) (by kernel_rfl) c83 <|
  .cons (fn := Tryz.f84) (by kernel_rfl) c84 <|
  .cons (fn := Tryz.f87) (by kernel_rfl) c87 <|
  .cons (fn := Tryz.f88) (by kernel_rfl) c88 <|
  .cons (fn := Tryz.f89) (by kernel_rfl) c89 <|
  .cons (fn := Tryz.f90) (by kernel_rfl) c90 <|
  .cons (fn := Tryz.f91) (by kernel_rfl) c91 <|
  .cons (fn := Tryz.f92) (by kernel_rfl) c92 <|
  .cons (fn := Tryz.f93) (by kernel_rfl) c93 <|
  .cons (fn := Tryz.f94) (by kernel_rfl) c94 <|
  .cons (fn := Tryz.f95) (by kernel_rfl) c95 <|
  .cons (fn := Tryz.f96) (by kernel_rfl) c96 <|
  .cons (fn := Tryz.f97) (by kernel_rfl) c97 <|
  .cons (fn := Tryz.f98) (by kernel_rfl) c98 <|
  .cons (fn := Tryz.f99) (by kernel_rfl) c99 <|
  .cons (fn := Tryz.f100) (by kernel_rfl) c100 <|
  .cons (fn := Tryz.f101) (by kernel_rfl) c101 <|
  .cons (fn := Tryz.f103) (by kernel_rfl) c103 <|
  .cons (fn := Tryz.f104) (by kernel_rfl) c104 <|
  .cons (fn := Tryz.f105) (by kernel_rfl) c105 <|
  .cons (fn := Tryz.f106) (by kernel_rfl) c106 <|
  .cons (fn := Tryz.f113) (by kernel_rfl) c113 <|
  .cons (fn := Tryz.f114) (by kernel_rfl) c114 <|
  .cons (fn := Tryz.f115) (by kernel_rfl) c115 <|
  .cons (fn := Tryz.f116) (by kernel_rfl) c116 <|
  .cons (fn := Tryz.f120) (by kernel_rfl) c120 <|
  .cons (fn := Tryz.f127) (by kernel_rfl) c127 <|
  .cons (fn := Tryz.f132) (by kernel_rfl) c132 <|
  .cons (fn := Tryz.f133) (by kernel_rfl) c133 <|
  .cons (fn := Tryz.f138) (by kernel_rfl) c138 <|
  .cons (fn := Tryz.f145) (by kernel_rfl) c145 <|
  .cons (fn := Tryz.f146) (by kernel_rfl) c146 <|
  .cons (fn := Tryz.f147) (by kernel_rfl) c147 <|
  .cons (fn := Tryz.f148) (by kernel_rfl) c148 <|
  .cons (fn := Tryz.f149) (by kernel_rfl) c149 <|
  .cons (fn := Tryz.f150) (by kernel_rfl) c150 <|
  .cons (fn := Tryz.f152) (by kernel_rfl) c152 <|
  .cons (fn := Tryz.f156) (by kernel_rfl) c156 <|
  .cons (fn := Tryz.f157) (by kernel_rfl) c157 <|
  .cons (fn := Tryz.f158) (by kernel_rfl) c158 <|
  .cons (fn := Tryz.f159) (by kernel_rfl) c159 <|
  .cons (fn := Tryz.f160) (by kernel_rfl) c160 <|
  .cons (fn := Tryz.f161) (by kernel_rfl) c161 <|
  .cons (fn := Tryz.f162) (by kernel_rfl) c162 <|
  .cons (fn := Tryz.f163) (by kernel_rfl) c163 <|
  .cons (fn := Tryz.f164) (by kernel_rfl) c164 <|
  .cons (fn := Tryz.f165) (by kernel_rfl) c165 <|
  .cons (fn := Tryz.f166) (by kernel_rfl) c166 <|
  .cons (fn := Tryz.f167) (by kernel_rfl) c167 <|
  .cons (fn := Tryz.f168) (by kernel_rfl) c168 <|
  .cons (fn := Tryz.f169) (by kernel_rfl) c169 <|
  .cons (fn := Tryz.f171) (by kernel_rfl) c171 <|
  .cons (fn := Tryz.f172) (by kernel_rfl) c172 <|
  .cons (fn := Tryz.f173) (by kernel_rfl) c173 <|
  .cons (fn := Tryz.f174) (by kernel_rfl) c174 <|
  .cons (fn := Tryz.f175) (by kernel_rfl) c175 <|
  .cons (fn := Tryz.f176) (by kernel_rfl) c176 <|
  .cons (fn := Tryz.f179) (by kernel_rfl) c179 <|
  .cons (fn := Tryz.f180) (by kernel_rfl) c180 <|
  .cons (fn := Tryz.f181) (by kernel_rfl) c181 <|
  .cons (fn := Tryz.f182) (by kernel_rfl) c182 <|
  .cons (fn := Tryz.f183) (by kernel_rfl) c183 <|
  .cons (fn := Tryz.f184) (by kernel_rfl) c184 <|
  .cons (fn := Tryz.f185) (by kernel_rfl) c185 <|
  .cons (fn := Tryz.f186) (by kernel_rfl) c186 <|
  .cons (fn := Tryz.f187) (by kernel_rfl) c187 <|
  .cons (fn := Tryz.f188) (by kernel_rfl) c188 <|
  .cons (fn := Tryz.f190) (by kernel_rfl) c190 <|
  .cons (fn := Tryz.f191) (by kernel_rfl) c191 <|
  .cons (fn := Tryz.f192) (by kernel_rfl) c192 <|
  .cons (fn := Tryz.f194) (by kernel_rfl) c194 <|
  .cons (fn := Tryz.f195) (by kernel_rfl) c195 <|
  .cons (fn := Tryz.f204) (by kernel_rfl) c204 <|
  .cons (fn := Tryz.f205) (by kernel_rfl) c205 <|
  .cons (fn := Tryz.f206) (by kernel_rfl) c206 <|
  .cons (fn := Tryz.f207) (by kernel_rfl) c207 <|
  .cons (fn := Tryz.f208) (by kernel_rfl) c208 <|
  .cons (fn := Tryz.f209) (by kernel_rfl) c209 <|
  .cons (fn := Tryz.f210) (by kernel_rfl) c210 <|
  .cons (fn := Tryz.f211) (by kernel_rfl) c211 <|
  .cons (fn := Tryz.f212) (by kernel_rfl) c212 <|
  .cons (fn := Tryz.f213) (by kernel_rfl) c213 <|
  .cons (fn := Tryz.f214) (by kernel_rfl) c214 <|
  .cons (fn := Tryz.f215) (by kernel_rfl) c215 <|
  .cons (fn := Tryz.f216) (by kernel_rfl) c216 <|
  .cons (fn := Tryz.f217) (by kernel_rfl) c217 <|
  .cons (fn := Tryz.f218) (by kernel_rfl) c218 <|
  .cons (fn := Tryz.f219) (by kernel_rfl) c219 <|
  .cons (fn := Tryz.f220) (by kernel_rfl) c220 <|
  .cons (fn := Tryz.f221) (by kernel_rfl) c221 <|
  .cons (fn := Tryz.f222) (by kernel_rfl) c222 <|
  .cons (fn := Tryz.f223) (by kernel_rfl) c223 <|
  .cons (fn := Tryz.f224) (by kernel_rfl) c224 <|
  .cons (fn := Tryz.f225) (by kernel_rfl) c225 <|
  .cons (fn := Tryz.f226) (by kernel_rfl) c226 <|
  .cons (fn := Tryz.f227) (by kernel_rfl) c227 <|
  .cons (fn := Tryz.f228) (by kernel_rfl) c228 <|
  .cons (fn := Tryz.f229) (by kernel_rfl) c229 <|
  .cons (fn := Tryz.f230) (by kernel_rfl) c230 <|
  .cons (fn := Tryz.f231) (by kernel_rfl) c231 <|
  .cons (fn := Tryz.f232) (by kernel_rfl) c232 <|
  .cons (fn := Tryz.f233) (by kernel_rfl) c233 <|
  .cons (fn := Tryz.f235) (by kernel_rfl) c235 <|
  .cons (fn := Tryz.f237) (by kernel_rfl) c237 <|
  .cons (fn := Tryz.f238) (by kernel_rfl) c238 <|
  .cons (fn := Tryz.f239) (by kernel_rfl) c239 <|
  .cons (fn := Tryz.f240) (by kernel_rfl) c240 <|
  .cons (fn := Tryz.f242) (by kernel_rfl) c242 <|
  .cons (fn := Tryz.f243) (by kernel_rfl) c243 <|
  .cons (fn := Tryz.f244) (by kernel_rfl) c244 <|
  .cons (fn := Tryz.f245) (by kernel_rfl) c245 <|
  .cons (fn := Tryz.f247) (by kernel_rfl) c247 <|
  .cons (fn := Tryz.f248) (by kernel_rfl) c248 <|
  .cons (fn := Tryz.f249) (by kernel_rfl) c249 <|
  .cons (fn := Tryz.f250) (by kernel_rfl) c250 <|
  .cons (fn := Tryz.f251) (by kernel_rfl) c251 <|
  .cons (fn := Tryz.f252) (by kernel_rfl) c252 <|
  .cons (fn := Tryz.f253) (by kernel_rfl) c253 <|
  .cons (fn := Tryz.f254) (by kernel_rfl) c254 <|
  .cons (fn := Tryz.f258) (by kernel_rfl) c258 <|
  .cons (fn := Tryz.f259) (by kernel_rfl) c259 <|
  .cons (fn := Tryz.f260) (by kernel_rfl) c260 <|
  .cons (fn := Tryz.f261) (by kernel_rfl) c261 <|
  .cons (fn := Tryz.f262) (by kernel_rfl) c262 <|
  .cons (fn := Tryz.f263) (by kernel_rfl) c263 <|
  .cons (fn := Tryz.f264) (by kernel_rfl) c264 <|
  .cons (fn := Tryz.f265) (by kernel_rfl) c265 <|
  .cons (fn := Tryz.f266) (by kernel_rfl) c266 <|
  .cons (fn := Tryz.f267) (by kernel_rfl) c267 <|
  .cons (fn := Tryz.f268) (by kernel_rfl) c268 <|
  .cons (fn := Tryz.f269) (by kernel_rfl) c269 <|
  .cons (fn := Tryz.f270) (by kernel_rfl) c270 <|
  .cons (fn := Tryz.f271) (by kernel_rfl) c271 <|
  .cons (fn := Tryz.f272) (by kernel_rfl) c272 <|
  .cons (fn := Tryz.f273) (by kernel_rfl) c273 <|
  .cons (fn := Tryz.f274) (by kernel_rfl) c274 <|
  .cons (fn := Tryz.f275) (by kernel_rfl) c275 <|
  .cons (fn := Tryz.f276) (by kernel_rfl) c276 <|
  .cons (fn := Tryz.f278) (by kernel_rfl) c278 <|
  .cons (fn := Tryz.f279) (by kernel_rfl) c279 <|
  .cons (fn := Tryz.f280) (by kernel_rfl) c280 <|
  .cons (fn := Tryz.f281) (by kernel_rfl) c281 <|
  .cons (fn := Tryz.f282) (by kernel_rfl) c282 <|
  .cons (fn := Tryz.f283) (by kernel_rfl) c283 <|
  .cons (fn := Tryz.f284) (by kernel_rfl) c284 <|
  .cons (fn := Tryz.f285) (by kernel_rfl) c285 <|
  .cons (fn := Tryz.f286) (by kernel_rfl) c286 <|
  .cons (fn := Tryz.f287) (by kernel_rfl) c287 <|
  .cons (fn := Tryz.f288) (by kernel_rfl) c288 <|
  .cons (fn := Tryz.f289) (by kernel_rfl) c289 <|
  .cons (fn := Tryz.f290) (by kernel_rfl) c290 <|
  .cons (fn := Tryz.f291) (by kernel_rfl) c291 <|
  .cons (fn := Tryz.f292) (by kernel_rfl) c292 <|
  .cons (fn := Tryz.f293) (by kernel_rfl) c293 <|
  .cons (fn := Tryz.f294) (by kernel_rfl) c294 <|
  .cons (fn := Tryz.f295) (by kernel_rfl) c295 <|
  .cons (fn := Tryz.f296) (by kernel_rfl) c296 <|
  .cons (fn := Tryz.f297) (by kernel_rfl) c297 <|
  .cons (fn := Tryz.f298) (by kernel_rfl) c298 <|
  .cons (fn := Tryz.f300) (by kernel_rfl) c300 <|
  .cons (fn := Tryz.f302) (by kernel_rfl) c302 <|
  .cons (fn := Tryz.f303) (by kernel_rfl) c303 <|
  .cons (fn := Tryz.f304) (by kernel_rfl) c304 <|
  .cons (fn := Tryz.f305) (by kernel_rfl) c305 <|
  .cons (fn := Tryz.f306) (by kernel_rfl) c306 <|
  .cons (fn := Tryz.f307) (by kernel_rfl) c307 <|
  .cons (fn := Tryz.f308) (by kernel_rfl) c308 <|
  .cons (fn := Tryz.f310) (by kernel_rfl) c310 <|
  .cons (fn := Tryz.f311) (by kernel_rfl) c311 <|
  .nil

/-- slices.Clone[[]broadside/api.ID,broadside/api.ID] -/
def cl108 : CloneText Tryz.prog Tryz.f108 32 2 16 (.agg [(.int .i64 0), (.int .i64 0)]) :=
  ⟨_, _, _, _, _, _, _, _, _, 75, 75, 32, rfl, by kernel_rfl, by kernel_rfl, rfl, rfl, rfl, by kernel_rfl, by kernel_rfl, by kernel_rfl, rfl, rfl⟩

/-- slices.Clone[[]broadside/api.Advert,broadside/api.Advert] -/
def cl107 : CloneText Tryz.prog Tryz.f107 120 4 48 (.agg [(.int .i64 0), (.int .i64 0), .nsl, (.int .i64 0)]) :=
  ⟨_, _, _, _, _, _, _, _, _, 74, 74, 120, rfl, by kernel_rfl, by kernel_rfl, rfl, rfl, rfl, by kernel_rfl, by kernel_rfl, by kernel_rfl, rfl, rfl⟩

/-- slices.Clone[[]broadside/api.Own,broadside/api.Own] -/
def cl102 : CloneText Tryz.prog Tryz.f102 189 3 40 (.agg [(.int .i64 0), (.int .i64 0), .nsl]) :=
  ⟨_, _, _, _, _, _, _, _, _, 77, 77, 189, rfl, by kernel_rfl, by kernel_rfl, rfl, rfl, rfl, by kernel_rfl, by kernel_rfl, by kernel_rfl, rfl, rfl⟩

/-- slices.Clone[[]broadside/api.Entry,broadside/api.Entry] -/
def cl109 : CloneText Tryz.prog Tryz.f109 192 7 72 (.agg [(.int .i64 0), (.int .i64 0), (.int .i64 0), (.int .i64 0), .nsl, (.int .i64 0), (.bool false)]) :=
  ⟨_, _, _, _, _, _, _, _, _, 76, 76, 192, rfl, by kernel_rfl, by kernel_rfl, rfl, rfl, rfl, by kernel_rfl, by kernel_rfl, by kernel_rfl, rfl, rfl⟩

/-- slices.Clone[[]broadside/world.live,broadside/world.live] -/
def cl277 : CloneText Tryz.prog Tryz.f277 325 2 32 (.agg [(.int .i64 0), .nsl]) :=
  ⟨_, _, _, _, _, _, _, _, _, 241, 241, 325, rfl, by kernel_rfl, by kernel_rfl, rfl, rfl, rfl, by kernel_rfl, by kernel_rfl, by kernel_rfl, rfl, rfl⟩

/-- slices.Clone[[]broadside/api.Attr,broadside/api.Attr] -/
def cl151 : CloneText Tryz.prog Tryz.f151 253 4 48 (.agg [(.str []), (.bool false), (.int .i64 0), (.str [])]) :=
  ⟨_, _, _, _, _, _, _, _, _, 38, 38, 253, rfl, by kernel_rfl, by kernel_rfl, rfl, rfl, rfl, by kernel_rfl, by kernel_rfl, by kernel_rfl, rfl, rfl⟩

/-- slices.Clone[[]int,int] -/
def cl86 : CloneText Tryz.prog Tryz.f86 3 1 8 (.int .i64 0) :=
  ⟨_, _, _, _, _, _, _, _, _, 65, 65, 3, rfl, by kernel_rfl, by kernel_rfl, rfl, rfl, rfl, by kernel_rfl, by kernel_rfl, by kernel_rfl, rfl, rfl⟩

/-- slices.Clone[[][2]int,[2]int] -/
def cl85 : CloneText Tryz.prog Tryz.f85 48 2 16 (.agg [(.int .i64 0), (.int .i64 0)]) :=
  ⟨_, _, _, _, _, _, _, _, _, 27, 27, 48, rfl, by kernel_rfl, by kernel_rfl, rfl, rfl, rfl, by kernel_rfl, by kernel_rfl, by kernel_rfl, rfl, rfl⟩

/-- slices.Clone[[]broadside/api.Delivery,broadside/api.Delivery] -/
def cl78 : CloneText Tryz.prog Tryz.f78 156 4 48 (.agg [(.int .i64 0), (.int .i64 0), (.int .i64 0), .nsl]) :=
  ⟨_, _, _, _, _, _, _, _, _, 33, 33, 156, rfl, by kernel_rfl, by kernel_rfl, rfl, rfl, rfl, by kernel_rfl, by kernel_rfl, by kernel_rfl, rfl, rfl⟩

def hooks : List (Nat × Hook) := [(170, overlapsHook), (241, overlapsHook), (236, overlapsHook), (234, overlapsHook), (301, overlapsHook), (37, Go.Proofs.YtkhmbjajaibinaaGreatDoor.Err.asHook), (108, cloneHook 32 2 16), (107, cloneHook 120 4 48), (102, cloneHook 189 3 40), (109, cloneHook 192 7 72), (277, cloneHook 325 2 32), (151, cloneHook 253 4 48), (86, cloneHook 3 1 8), (85, cloneHook 48 2 16), (78, cloneHook 156 4 48)]

theorem hooks_ok : HooksOk Tryz.prog hooks :=
  .cons (overlaps_ok (fn := Tryz.f170) (tS := 77) (tR := 4) (e := 189) (by kernel_rfl) (by kernel_rfl) (by kernel_rfl) (by kernel_rfl) (by kernel_rfl) (by kernel_rfl) (by kernel_rfl)) <|
  .cons (overlaps_ok (fn := Tryz.f241) (tS := 76) (tR := 4) (e := 192) (by kernel_rfl) (by kernel_rfl) (by kernel_rfl) (by kernel_rfl) (by kernel_rfl) (by kernel_rfl) (by kernel_rfl)) <|
  .cons (overlaps_ok (fn := Tryz.f236) (tS := 75) (tR := 4) (e := 32) (by kernel_rfl) (by kernel_rfl) (by kernel_rfl) (by kernel_rfl) (by kernel_rfl) (by kernel_rfl) (by kernel_rfl)) <|
  .cons (overlaps_ok (fn := Tryz.f234) (tS := 74) (tR := 4) (e := 120) (by kernel_rfl) (by kernel_rfl) (by kernel_rfl) (by kernel_rfl) (by kernel_rfl) (by kernel_rfl) (by kernel_rfl)) <|
  .cons (overlaps_ok (fn := Tryz.f301) (tS := 37) (tR := 4) (e := 303) (by kernel_rfl) (by kernel_rfl) (by kernel_rfl) (by kernel_rfl) (by kernel_rfl) (by kernel_rfl) (by kernel_rfl)) <|
  .cons Go.Proofs.YtkhmbjajaibinaaGreatDoor.Err.asHookOk <|
  .cons (clone_ok (fn := Tryz.f108) (by kernel_rfl) (by kernel_rfl) (by kernel_rfl) cl108) <|
  .cons (clone_ok (fn := Tryz.f107) (by kernel_rfl) (by kernel_rfl) (by kernel_rfl) cl107) <|
  .cons (clone_ok (fn := Tryz.f102) (by kernel_rfl) (by kernel_rfl) (by kernel_rfl) cl102) <|
  .cons (clone_ok (fn := Tryz.f109) (by kernel_rfl) (by kernel_rfl) (by kernel_rfl) cl109) <|
  .cons (clone_ok (fn := Tryz.f277) (by kernel_rfl) (by kernel_rfl) (by kernel_rfl) cl277) <|
  .cons (clone_ok (fn := Tryz.f151) (by kernel_rfl) (by kernel_rfl) (by kernel_rfl) cl151) <|
  .cons (clone_ok (fn := Tryz.f86) (by kernel_rfl) (by kernel_rfl) (by kernel_rfl) cl86) <|
  .cons (clone_ok (fn := Tryz.f85) (by kernel_rfl) (by kernel_rfl) (by kernel_rfl) cl85) <|
  .cons (clone_ok (fn := Tryz.f78) (by kernel_rfl) (by kernel_rfl) (by kernel_rfl) cl78) <|
  .nil

def D : DProg := hookedD tab hooks

theorem good : Good Tryz.prog D := hookedD_good (by kernel_rfl) tab_ok hooks_ok

end Go.Dm.TabW
