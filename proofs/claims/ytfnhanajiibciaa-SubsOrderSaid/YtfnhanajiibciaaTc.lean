/-
The table of functions (Tc). Written by program (wip/tools/table.lean.txt).
-/
import Derived.Test.YtfnhanajiibciaaTc0
import Derived.Test.YtfnhanajiibciaaTc1
import Derived.Test.YtfnhanajiibciaaTc2
namespace Go.Dm.Tc
open Go.Proofs

def tab : List (Nat × DFunc) := [(5, t5), (7, t7), (8, t8), (9, t9), (10, t10), (12, t12), (14, t14), (17, t17), (18, t18), (19, t19), (20, t20), (21, t21), (22, t22), (23, t23), (24, t24), (25, t25), (28, t28), (29, t29), (30, t30), (31, t31), (32, t32), (33, t33), (34, t34), (35, t35), (36, t36), (37, t37), (41, t41), (51, t51), (56, t56), (63, t63), (64, t64), (65, t65), (66, t66), (67, t67), (68, t68), (78, t78), (79, t79), (83, t83), (84, t84), (85, t85), (87, t87), (89, t89), (90, t90), (91, t91), (92, t92), (97, t97), (98, t98), (100, t100), (101, t101), (102, t102), (103, t103), (105, t105), (106, t106), (107, t107), (108, t108), (109, t109), (110, t110), (111, t111), (112, t112), (113, t113), (114, t114), (115, t115), (116, t116), (117, t117), (118, t118), (121, t121), (122, t122), (123, t123), (124, t124), (125, t125), (126, t126), (127, t127), (128, t128), (129, t129), (130, t130), (131, t131)]

set_option maxRecDepth 100000 in
theorem tab_ok : TabOk Try.prog tab :=
  .cons (fn := Try.f5) (by kernel_rfl) c5 <|
  .cons (fn := Try.f7) (by kernel_rfl) c7 <|
  .cons (fn := Try.f8) (by kernel_rfl) c8 <|
  .cons (fn := Try.f9) (by kernel_rfl) c9 <|
  .cons (fn := Try.f10) (by kernel_rfl) c10 <|
  .cons (fn := Try.f12) (by kernel_rfl) c12 <|
  .cons (fn := Try.f14) (by kernel_rfl) c14 <|
  .cons (fn := Try.f17) (by kernel_rfl) c17 <|
  .cons (fn := Try.f18) (by kernel_rfl) c18 <|
  .cons (fn := Try.f19) (by kernel_rfl) c19 <|
  .cons (fn := Try.f20) (by kernel_rfl) c20 <|
  .cons (fn := Try.f21) (by kernel_rfl) c21 <|
  .cons (fn := Try.f22) (by kernel_rfl) c22 <|
  .cons (fn := Try.f23) (by kernel_rfl) c23 <|
  .cons (fn := Try.f24) (by kernel_rfl) c24 <|
  .cons (fn := Try.f25) (by kernel_rfl) c25 <|
  .cons (fn := Try.f28) (by kernel_rfl) c28 <|
  .cons (fn := Try.f29) (by kernel_rfl) c29 <|
  .cons (fn := Try.f30) (by kernel_rfl) c30 <|
  .cons (fn := Try.f31) (by kernel_rfl) c31 <|
  .cons (fn := Try.f32) (by kernel_rfl) c32 <|
  .cons (fn := Try.f33) (by kernel_rfl) c33 <|
  .cons (fn := Try.f34) (by kernel_rfl) c34 <|
  .cons (fn := Try.f35) (by kernel_rfl) c35 <|
  .cons (fn := Try.f36) (by kernel_rfl) c36 <|
  .cons (fn := Try.f37) (by kernel_rfl) c37 <|
  .cons (fn := Try.f41) (by kernel_rfl) c41 <|
  .cons (fn := Try.f51) (by kernel_rfl) c51 <|
  .cons (fn := Try.f56) (by kernel_rfl) c56 <|
  .cons (fn := Try.f63) (by kernel_rfl) c63 <|
  .cons (fn := Try.f64) (by kernel_rfl) c64 <|
  .cons (fn := Try.f65) (by kernel_rfl) c65 <|
  .cons (fn := Try.f66) (by kernel_rfl) c66 <|
  .cons (fn := Try.f67) (by kernel_rfl) c67 <|
  .cons (fn := Try.f68) (by kernel_rfl) c68 <|
  .cons (fn := Try.f78) (by kernel_rfl) c78 <|
  .cons (fn := Try.f79) (by kernel_rfl) c79 <|
  .cons (fn := Try.f83) (by kernel_rfl) c83 <|
  .cons (fn := Try.f84) (by kernel_rfl) c84 <|
  .cons (fn := Try.f85) (by kernel_rfl) c85 <|
  .cons (fn := Try.f87) (by kernel_rfl) c87 <|
  .cons (fn := Try.f89) (by kernel_rfl) c89 <|
  .cons (fn := Try.f90) (by kernel_rfl) c90 <|
  .cons (fn := Try.f91) (by kernel_rfl) c91 <|
  .cons (fn := Try.f92) (by kernel_rfl) c92 <|
  .cons (fn := Try.f97) (by kernel_rfl) c97 <|
  .cons (fn := Try.f98) (by kernel_rfl) c98 <|
  .cons (fn := Try.f100) (by kernel_rfl) c100 <|
  .cons (fn := Try.f101) (by kernel_rfl) c101 <|
  .cons (fn := Try.f102) (by kernel_rfl) c102 <|
  .cons (fn := Try.f103) (by kernel_rfl) c103 <|
  .cons (fn := Try.f105) (by kernel_rfl) c105 <|
  .cons (fn := Try.f106) (by kernel_rfl) c106 <|
  .cons (fn := Try.f107) (by kernel_rfl) c107 <|
  .cons (fn := Try.f108) (by kernel_rfl) c108 <|
  .cons (fn := Try.f109) (by kernel_rfl) c109 <|
  .cons (fn := Try.f110) (by kernel_rfl) c110 <|
  .cons (fn := Try.f111) (by kernel_rfl) c111 <|
  .cons (fn := Try.f112) (by kernel_rfl) c112 <|
  .cons (fn := Try.f113) (by kernel_rfl) c113 <|
  .cons (fn := Try.f114) (by kernel_rfl) c114 <|
  .cons (fn := Try.f115) (by kernel_rfl) c115 <|
  .cons (fn := Try.f116) (by kernel_rfl) c116 <|
  .cons (fn := Try.f117) (by kernel_rfl) c117 <|
  .cons (fn := Try.f118) (by kernel_rfl) c118 <|
  .cons (fn := Try.f121) (by kernel_rfl) c121 <|
  .cons (fn := Try.f122) (by kernel_rfl) c122 <|
  .cons (fn := Try.f123) (by kernel_rfl) c123 <|
  .cons (fn := Try.f124) (by kernel_rfl) c124 <|
  .cons (fn := Try.f125) (by kernel_rfl) c125 <|
  .cons (fn := Try.f126) (by kernel_rfl) c126 <|
  .cons (fn := Try.f127) (by kernel_rfl) c127 <|
  .cons (fn := Try.f128) (by kernel_rfl) c128 <|
  .cons (fn := Try.f129) (by kernel_rfl) c129 <|
  .cons (fn := Try.f130) (by kernel_rfl) c130 <|
  .cons (fn := Try.f131) (by kernel_rfl) c131 <|
  .nil

/-- slices.Clone[[]broadside/api.Own,broadside/api.Own] -/
def cl82 : CloneText Try.prog Try.f82 88 3 40 (.agg [(.int .i64 0), (.int .i64 0), .nsl]) :=
  ⟨_, _, _, _, _, _, _, _, _, 28, 28, 88, rfl, by kernel_rfl, by kernel_rfl, rfl, rfl, rfl, by kernel_rfl, by kernel_rfl, by kernel_rfl, rfl, rfl⟩

/-- slices.Clone[[]broadside/api.ID,broadside/api.ID] -/
def cl81 : CloneText Try.prog Try.f81 35 2 16 (.agg [(.int .i64 0), (.int .i64 0)]) :=
  ⟨_, _, _, _, _, _, _, _, _, 26, 26, 35, rfl, by kernel_rfl, by kernel_rfl, rfl, rfl, rfl, by kernel_rfl, by kernel_rfl, by kernel_rfl, rfl, rfl⟩

/-- slices.Clone[[]broadside/api.Advert,broadside/api.Advert] -/
def cl80 : CloneText Try.prog Try.f80 41 4 48 (.agg [(.int .i64 0), (.int .i64 0), .nsl, (.int .i64 0)]) :=
  ⟨_, _, _, _, _, _, _, _, _, 25, 25, 41, rfl, by kernel_rfl, by kernel_rfl, rfl, rfl, rfl, by kernel_rfl, by kernel_rfl, by kernel_rfl, rfl, rfl⟩

/-- slices.Clone[[]broadside/api.Entry,broadside/api.Entry] -/
def cl62 : CloneText Try.prog Try.f62 53 7 72 (.agg [(.int .i64 0), (.int .i64 0), (.int .i64 0), (.int .i64 0), .nsl, (.int .i64 0), (.bool false)]) :=
  ⟨_, _, _, _, _, _, _, _, _, 27, 27, 53, rfl, by kernel_rfl, by kernel_rfl, rfl, rfl, rfl, by kernel_rfl, by kernel_rfl, by kernel_rfl, rfl, rfl⟩

/-- slices.Clone[[]int,int] -/
def cl27 : CloneText Try.prog Try.f27 3 1 8 (.int .i64 0) :=
  ⟨_, _, _, _, _, _, _, _, _, 22, 22, 3, rfl, by kernel_rfl, by kernel_rfl, rfl, rfl, rfl, by kernel_rfl, by kernel_rfl, by kernel_rfl, rfl, rfl⟩

def hooks : List (Nat × Hook) := [(99, overlapsHook), (88, overlapsHook), (86, overlapsHook), (82, cloneHook 88 3 40), (81, cloneHook 35 2 16), (80, cloneHook 41 4 48), (62, cloneHook 53 7 72), (27, cloneHook 3 1 8)]

theorem hooks_ok : HooksOk Try.prog hooks :=
  .cons (overlaps_ok (fn := Try.f99) (tS := 27) (tR := 4) (e := 53) (by kernel_rfl) (by kernel_rfl) (by kernel_rfl) (by kernel_rfl) (by kernel_rfl) (by kernel_rfl) (by kernel_rfl)) <|
  .cons (overlaps_ok (fn := Try.f88) (tS := 26) (tR := 4) (e := 35) (by kernel_rfl) (by kernel_rfl) (by kernel_rfl) (by kernel_rfl) (by kernel_rfl) (by kernel_rfl) (by kernel_rfl)) <|
  .cons (overlaps_ok (fn := Try.f86) (tS := 25) (tR := 4) (e := 41) (by kernel_rfl) (by kernel_rfl) (by kernel_rfl) (by kernel_rfl) (by kernel_rfl) (by kernel_rfl) (by kernel_rfl)) <|
  .cons (clone_ok (fn := Try.f82) (by kernel_rfl) (by kernel_rfl) (by kernel_rfl) cl82) <|
  .cons (clone_ok (fn := Try.f81) (by kernel_rfl) (by kernel_rfl) (by kernel_rfl) cl81) <|
  .cons (clone_ok (fn := Try.f80) (by kernel_rfl) (by kernel_rfl) (by kernel_rfl) cl80) <|
  .cons (clone_ok (fn := Try.f62) (by kernel_rfl) (by kernel_rfl) (by kernel_rfl) cl62) <|
  .cons (clone_ok (fn := Try.f27) (by kernel_rfl) (by kernel_rfl) (by kernel_rfl) cl27) <|
  .nil

def D : DProg := hookedD tab hooks

theorem good : Good Try.prog D := hookedD_good (by kernel_rfl) tab_ok hooks_ok

end Go.Dm.Tc
