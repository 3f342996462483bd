/-
The table of functions (Tr5). Written by program (wip/tools/table3.lean.txt).
-/
import Derived.Test.YtloabemenciijaaGreatDoorTr50
import Derived.Test.YtloabemenciijaaGreatDoorTr51
import Derived.Test.YtloabemenciijaaGreatDoorTr52
import Derived.Test.YtloabemenciijaaGreatDoorTr53
import Derived.Test.YtloabemenciijaaGreatDoorAsD
namespace Go.Dm.Tr5
open Go.Proofs

def tab : List (Nat × DFunc) := [(5, t5), (18, t18), (21, t21), (30, t30), (31, t31), (32, t32), (33, t33), (34, t34), (35, t35), (38, t38), (42, t42), (43, t43), (46, t46), (49, t49), (50, t50), (58, t58), (64, t64), (77, t77), (96, t96), (97, t97), (98, t98), (99, t99), (100, t100), (101, t101), (102, t102), (103, t103), (104, t104), (105, t105), (106, t106), (107, t107), (108, t108), (109, t109), (110, t110), (111, t111), (112, t112), (113, t113), (114, t114), (115, t115), (116, t116), (117, t117), (118, t118), (119, t119), (120, t120), (121, t121), (122, t122), (123, t123), (129, t129), (130, t130), (131, t131), (132, t132), (133, t133), (134, t134), (135, t135), (136, t136), (137, t137), (142, t142), (146, t146), (147, t147), (159, t159), (178, t178), (179, t179), (198, t198), (199, t199), (200, t200), (201, t201), (202, t202), (203, t203), (204, t204), (205, t205), (206, t206), (207, t207), (217, t217), (218, t218), (219, t219), (220, t220), (221, t221), (222, t222), (228, t228), (229, t229), (237, t237), (244, t244), (261, t261), (262, t262), (263, t263), (264, t264), (279, t279), (280, t280), (281, t281), (282, t282), (283, t283), (284, t284), (285, t285), (286, t286), (287, t287), (288, t288), (297, t297), (298, t298), (299, t299), (300, t300), (301, t301), (302, t302), (303, t303), (304, t304), (305, t305), (318, t318), (320, t320), (321, t321), (332, t332), (333, t333), (334, t334), (335, t335), (336, t336), (341, t341), (342, t342), (343, t343), (353, t353), (363, t363), (366, t366)]

set_option maxRecDepth 100000 in
theorem tab_ok : TabOk Tryz.prog tab :=
  .cons (fn := Tryz.f5) (by kernel_rfl) c5 <|
  .cons (fn := Tryz.f18) (by kernel_rfl) c18 <|
  .cons (fn := Tryz.f21) (by kernel_rfl) c21 <|
  .cons (fn := Tryz.f30) (by kernel_rfl) c30 <|
  .cons (fn := Tryz.f31) (by kernel_rfl) c31 <|
  .cons (fn := Tryz.f32) (by kernel_rfl) c32 <|
  .cons (fn := Tryz.f33) (by kernel_rfl) c33 <|
  .cons (fn := Tryz.f34) (by kernel_rfl) c34 <|
  .cons (fn := Tryz.f35) (by kernel_rfl) c35 <|
  .cons (fn := Tryz.f38) (by kernel_rfl) c38 <|
  .cons (fn := Tryz.f42) (by kernel_rfl) c42 <|
  .cons (fn := Tryz.f43) (by kernel_rfl) c43 <|
  .cons (fn := Tryz.f46) (by kernel_rfl) c46 <|
  .cons (fn := Tryz.f49) (by kernel_rfl) c49 <|
  .cons (fn := Tryz.f50) (by kernel_rfl) c50 <|
  .cons (fn := Tryz.f58) (by kernel_rfl) c58 <|
  .cons (fn := Tryz.f64) (by kernel_rfl) c64 <|
  .cons (fn := Tryz.f77) (by kernel_rfl) c77 <|
  .cons (fn := Tryz.f96) (by kernel_rfl) c96 <|
  .cons (fn := Tryz.f97) (by kernel_rfl) c97 <|
  .cons (fn := Tryz.f98) (by kernel_rfl) c98 <|
  .cons (fn := Tryz.f99) (by kernel_rfl) c99 <|
  .cons (fn := Tryz.f100) (by kernel_rfl) c100 <|
  .cons (fn := Tryz.f101) (by kernel_rfl) c101 <|
  .cons (fn := Tryz.f102) (by kernel_rfl) c102 <|
  .cons (fn := Tryz.f103) (by kernel_rfl) c103 <|
  .cons (fn := Tryz.f104) (by kernel_rfl) c104 <|
  .cons (fn := Tryz.f105) (by kernel_rfl) c105 <|
  .cons (fn := Tryz.f106) (by kernel_rfl) c106 <|
  .cons (fn := Tryz.f107) (by kernel_rfl) c107 <|
  .cons (fn := Tryz.f108) (by kernel_rfl) c108 <|
  .cons (fn := Tryz.f109) (by kernel_rfl) c109 <|
  .cons (fn := Tryz.f110) (by kernel_rfl) c110 <|
  .cons (fn := Tryz.f111) (by kernel_rfl) c111 <|
  .cons (fn := Tryz.f112) (by kernel_rfl) c112 <|
  .cons (fn := Tryz.f113) (by kernel_rfl) c113 <|
  .cons (fn := Tryz.f114) (by kernel_rfl) c114 <|
  .cons (fn := Tryz.f115) (by kernel_rfl) c115 <|
  .cons (fn := Tryz.f116) (by kernel_rfl) c116 <|
  .cons (fn := Tryz.f117) (by kernel_rfl) c117 <|
  .cons (fn := Tryz.f118) (by kernel_rfl) c118 <|
  .cons (fn := Tryz.f119) (by kernel_rfl) c119 <|
  .cons (fn := Tryz.f120) (by kernel_rfl) c120 <|
  .cons (fn := Tryz.f121) (by kernel_rfl) c121 <|
  .cons (fn := Tryz.f122) (by kernel_rfl) c122 <|
  .cons (fn := Tryz.f123) (by kernel_rfl) c123 <|
  .cons (fn := Tryz.f129) (by kernel_rfl) c129 <|
  .cons (fn := Tryz.f130) (by kernel_rfl) c130 <|
  .cons (fn := Tryz.f131) (by kernel_rfl) c131 <|
  .cons (fn := Tryz.f132) (by kernel_rfl) c132 <|
  .cons (fn := Tryz.f133) (by kernel_rfl) c133 <|
  .cons (fn := Tryz.f134) (by kernel_rfl) c134 <|
  .cons (fn := Tryz.f135) (by kernel_rfl) c135 <|
  .cons (fn := Tryz.f136) (by kernel_rfl) c136 <|
  .cons (fn := Tryz.f137) (by kernel_rfl) c137 <|
  .cons (fn := Tryz.f142) (by kernel_rfl) c142 <|
  .cons (fn := Tryz.f146) (by kernel_rfl) c146 <|
  .cons (fn := Tryz.f147) (by kernel_rfl) c147 <|
  .cons (fn := Tryz.f159) (by kernel_rfl) c159 <|
  .cons (fn := Tryz.f178) (by kernel_rfl) c178 <|
  .cons (fn := Tryz.f179) (by kernel_rfl) c179 <|
  .cons (fn := Tryz.f198) (by kernel_rfl) c198 <|
  .cons (fn := Tryz.f199) (by kernel_rfl) c199 <|
  .cons (fn := Tryz.f200) (by kernel_rfl) c200 <|
  .cons (fn := Tryz.f201) (by kernel_rfl) c201 <|
  .cons (fn := Tryz.f202) (by kernel_rfl) c202 <|
  .cons (fn := Tryz.f203) (by kernel_rfl) c203 <|
  .cons (fn := Tryz.f204) (by kernel_rfl) c204 <|
  .cons (fn := Tryz.f205) (by kernel_rfl) c205 <|
  .cons (fn := Tryz.f206) (by kernel_rfl) c206 <|
  .cons (fn := Tryz.f207) (by kernel_rfl) c207 <|
  .cons (fn := Tryz.f217) (by kernel_rfl) c217 <|
  .cons (fn := Tryz.f218) (by kernel_rfl) c218 <|
  .cons (fn := Tryz.f219) (by kernel_rfl) c219 <|
  .cons (fn := Tryz.f220) (by kernel_rfl) c220 <|
  .cons (fn := Tryz.f221) (by kernel_rfl) c221 <|
  .cons (fn := Tryz.f222) (by kernel_rfl) c222 <|
  .cons (fn := Tryz.f228) (by kernel_rfl) c228 <|
  .cons (fn := Tryz.f229) (by kernel_rfl) c229 <|
  .cons (fn := Tryz.f237) (by kernel_rfl) c237 <|
  .cons (fn := Tryz.f244) (by kernel_rfl) c244 <|
  .cons (fn := Tryz.f261) (by kernel_rfl) c261 <|
  .cons (fn := Tryz.f262) (by kernel_rfl) c262 <|
  .cons (fn := Tryz.f263) (by kernel_rfl) c263 <|
  .cons (fn := Tryz.f264) (by kernel_rfl) c264 <|
  .cons (fn := Tryz.f279) (by kernel_rfl) c279 <|
  .cons (fn := Tryz.f280) (by kernel_rfl) c280 <|
  .cons (fn := Tryz.f281) (by kernel_rfl) c281 <|
  .cons (fn := Tryz.f282) (by kernel_rfl) c282 <|
  .cons (fn := Tryz.f283) (by kernel_rfl) c283 <|
  .cons (fn := Tryz.f284) (by kernel_rfl) c284 <|
  .cons (fn := Tryz.f285) (by kernel_rfl) c285 <|
  .cons (fn := Tryz.f286) (by kernel_rfl) c286 <|
  .cons (fn := Tryz.f287) (by kernel_rfl) c287 <|
  .cons (fn := Tryz.f288) (by kernel_rfl) c288 <|
  .cons (fn := Tryz.f297) (by kernel_rfl) c297 <|
  .cons (fn := Tryz.f298) (by kernel_rfl) c298 <|
  .cons (fn := Tryz.f299) (by kernel_rfl) c299 <|
  .cons (fn := Tryz.f300) (by kernel_rfl) c300 <|
  .cons (fn := Tryz.f301) (by kernel_rfl) c301 <|
  .cons (fn := Tryz.f302) (by kernel_rfl) c302 <|
  .cons (fn := Tryz.f303) (by kernel_rfl) c303 <|
  .cons (fn := Tryz.f304) (by kernel_rfl) c304 <|
  .cons (fn := Tryz.f305) (by kernel_rfl) c305 <|
  .cons (fn := Tryz.f318) (by kernel_rfl) c318 <|
  .cons (fn := Tryz.f320) (by kernel_rfl) c320 <|
  .cons (fn := Tryz.f321) (by kernel_rfl) c321 <|
  .cons (fn := Tryz.f332) (by kernel_rfl) c332 <|
  .cons (fn := Tryz.f333) (by kernel_rfl) c333 <|
  .cons (fn := Tryz.f334) (by kernel_rfl) c334 <|
  .cons (fn := Tryz.f335) (by kernel_rfl) c335 <|
  .cons (fn := Tryz.f336) (by kernel_rfl) c336 <|
  .cons (fn := Tryz.f341) (by kernel_rfl) c341 <|
  .cons (fn := Tryz.f342) (by kernel_rfl) c342 <|
  .cons (fn := Tryz.f343) (by kernel_rfl) c343 <|
  .cons (fn := Tryz.f353) (by kernel_rfl) c353 <|
  .cons (fn := Tryz.f363) (by kernel_rfl) c363 <|
  .cons (fn := Tryz.f366) (by kernel_rfl) c366 <|
  .nil

/-- slices.Clone[[]broadside/api.Message,broadside/api.Message] -/
def cl225 : CloneText Tryz.prog Tryz.f225 49 7 88 (.agg [(.int .i64 0), (.int .i64 0), (.int .i64 0), (.int .i64 0), (.int .i64 0), .nsl, .nsl]) :=
  ⟨_, _, _, _, _, _, _, _, _, 110, 110, 49, rfl, by kernel_rfl, by kernel_rfl, rfl, rfl, rfl, by kernel_rfl, by kernel_rfl, by kernel_rfl, rfl, rfl⟩

/-- slices.Clone[[]broadside/api.Cross,broadside/api.Cross] -/
def cl153 : CloneText Tryz.prog Tryz.f153 248 4 32 (.agg [(.int .i64 0), (.int .i64 0), (.int .i64 0), (.int .i64 0)]) :=
  ⟨_, _, _, _, _, _, _, _, _, 120, 120, 248, rfl, by kernel_rfl, by kernel_rfl, rfl, rfl, rfl, by kernel_rfl, by kernel_rfl, by kernel_rfl, rfl, rfl⟩

/-- slices.Clone[[]broadside/api.Broker,broadside/api.Broker] -/
def cl158 : CloneText Tryz.prog Tryz.f158 37 6 128 (.agg [(.int .i64 0), .nsl, .nsl, .nsl, .nsl, .nsl]) :=
  ⟨_, _, _, _, _, _, _, _, _, 228, 228, 37, rfl, by kernel_rfl, by kernel_rfl, rfl, rfl, rfl, by kernel_rfl, by kernel_rfl, by kernel_rfl, rfl, rfl⟩

/-- slices.Clone[[][2]int,[2]int] -/
def cl223 : CloneText Tryz.prog Tryz.f223 90 2 16 (.agg [(.int .i64 0), (.int .i64 0)]) :=
  ⟨_, _, _, _, _, _, _, _, _, 77, 77, 90, rfl, by kernel_rfl, by kernel_rfl, rfl, rfl, rfl, by kernel_rfl, by kernel_rfl, by kernel_rfl, rfl, rfl⟩

/-- slices.Clone[[]broadside/api.Own,broadside/api.Own] -/
def cl152 : CloneText Tryz.prog Tryz.f152 151 3 40 (.agg [(.int .i64 0), (.int .i64 0), .nsl]) :=
  ⟨_, _, _, _, _, _, _, _, _, 35, 35, 151, rfl, by kernel_rfl, by kernel_rfl, rfl, rfl, rfl, by kernel_rfl, by kernel_rfl, by kernel_rfl, rfl, rfl⟩

/-- slices.Clone[[]broadside/api.Entry,broadside/api.Entry] -/
def cl151 : CloneText Tryz.prog Tryz.f151 88 7 72 (.agg [(.int .i64 0), (.int .i64 0), (.int .i64 0), (.int .i64 0), .nsl, (.int .i64 0), (.bool false)]) :=
  ⟨_, _, _, _, _, _, _, _, _, 34, 34, 88, rfl, by kernel_rfl, by kernel_rfl, rfl, rfl, rfl, by kernel_rfl, by kernel_rfl, by kernel_rfl, rfl, rfl⟩

/-- slices.Clone[[]broadside/api.ID,broadside/api.ID] -/
def cl150 : CloneText Tryz.prog Tryz.f150 45 2 16 (.agg [(.int .i64 0), (.int .i64 0)]) :=
  ⟨_, _, _, _, _, _, _, _, _, 33, 33, 45, rfl, by kernel_rfl, by kernel_rfl, rfl, rfl, rfl, by kernel_rfl, by kernel_rfl, by kernel_rfl, rfl, rfl⟩

/-- slices.Clone[[]broadside/api.Advert,broadside/api.Advert] -/
def cl149 : CloneText Tryz.prog Tryz.f149 86 4 48 (.agg [(.int .i64 0), (.int .i64 0), .nsl, (.int .i64 0)]) :=
  ⟨_, _, _, _, _, _, _, _, _, 32, 32, 86, rfl, by kernel_rfl, by kernel_rfl, rfl, rfl, rfl, by kernel_rfl, by kernel_rfl, by kernel_rfl, rfl, rfl⟩

/-- slices.Clone[[]int,int] -/
def cl148 : CloneText Tryz.prog Tryz.f148 3 1 8 (.int .i64 0) :=
  ⟨_, _, _, _, _, _, _, _, _, 25, 25, 3, rfl, by kernel_rfl, by kernel_rfl, rfl, rfl, rfl, by kernel_rfl, by kernel_rfl, by kernel_rfl, rfl, rfl⟩

def hooks : List (Nat × Hook) := [(75, Go.Proofs.YtloabemenciijaaGreatDoor.Err.asHook), (225, inlHook 49 7 88), (153, cloneHook 248 4 32), (158, cloneHook 37 6 128), (223, inlHook 90 2 16), (152, cloneHook 151 3 40), (151, cloneHook 88 7 72), (150, cloneHook 45 2 16), (149, cloneHook 86 4 48), (148, cloneHook 3 1 8)]

theorem hooks_ok : HooksOk Tryz.prog hooks :=
  .cons Go.Proofs.YtloabemenciijaaGreatDoor.Err.asHookOk <|
  .cons (inl_ok (clone_ok (fn := Tryz.f225) (by kernel_rfl) (by kernel_rfl) (by kernel_rfl) cl225)) <|
  .cons (clone_ok (fn := Tryz.f153) (by kernel_rfl) (by kernel_rfl) (by kernel_rfl) cl153) <|
  .cons (clone_ok (fn := Tryz.f158) (by kernel_rfl) (by kernel_rfl) (by kernel_rfl) cl158) <|
  .cons (inl_ok (clone_ok (fn := Tryz.f223) (by kernel_rfl) (by kernel_rfl) (by kernel_rfl) cl223)) <|
  .cons (clone_ok (fn := Tryz.f152) (by kernel_rfl) (by kernel_rfl) (by kernel_rfl) cl152) <|
  .cons (clone_ok (fn := Tryz.f151) (by kernel_rfl) (by kernel_rfl) (by kernel_rfl) cl151) <|
  .cons (clone_ok (fn := Tryz.f150) (by kernel_rfl) (by kernel_rfl) (by kernel_rfl) cl150) <|
  .cons (clone_ok (fn := Tryz.f149) (by kernel_rfl) (by kernel_rfl) (by kernel_rfl) cl149) <|
  .cons (clone_ok (fn := Tryz.f148) (by kernel_rfl) (by kernel_rfl) (by kernel_rfl) cl148) <|
  .nil

def D : DProg := hookedD tab hooks

theorem good : Good Tryz.prog D := hookedD_good (by kernel_rfl) tab_ok hooks_ok

end Go.Dm.Tr5
