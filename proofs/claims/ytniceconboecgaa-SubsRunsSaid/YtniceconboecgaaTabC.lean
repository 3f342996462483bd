/-
The table of functions (TabC). Written by program (wip/tools/table.lean.txt).
-/
import Derived.Test.YtniceconboecgaaTabC0
import Derived.Test.YtniceconboecgaaTabC1
import Derived.Test.YtniceconboecgaaTabC2
import Derived.Test.YtniceconboecgaaTabC3
import Derived.Test.YtniceconboecgaaTabC4
import Derived.Test.YtniceconboecgaaTabC5
namespace Go.Dm.TabC
open Go.Proofs

def tab : List (Nat × DFunc) := [(8, t8), (22, t22), (23, t23), (28, t28), (29, t29), (30, t30), (31, t31), (32, t32), (33, t33), (34, t34), (36, t36), (37, t37), (44, t44), (45, t45), (46, t46), (47, t47), (48, t48), (50, t50), (51, t51), (64, t64), (65, t65), (70, t70), (78, t78), (79, t79), (80, t80), (81, t81), (82, t82), (97, t97), (98, t98), (99, t99), (101, t101), (103, t103), (104, t104), (105, t105), (106, t106), (107, t107), (112, t112), (113, t113), (115, t115), (116, t116), (117, t117), (118, t118), (121, t121), (122, t122), (123, t123), (124, t124), (125, t125), (126, t126), (127, t127), (128, t128), (129, t129), (130, t130), (131, t131), (132, t132), (133, t133), (134, t134), (136, t136), (137, t137), (138, t138), (139, t139), (140, t140), (141, t141), (142, t142), (143, t143), (144, t144), (145, t145), (146, t146)]

theorem tab_ok : TabOk Try.prog tab :=
  .cons (fn := Try.f8) (by kernel_rfl) c8 <|
  .cons (fn := Try.f22) (by kernel_rfl) c22 <|
  .cons (fn := Try.f23) (by kernel_rfl) c23 <|
  .cons (fn := Try.f28) (by kernel_rfl) c28 <|
  .cons (fn := Try.f29) (by kernel_rfl) c29 <|
  .cons (fn := Try.f30) (by kernel_rfl) c30 <|
  .cons (fn := Try.f31) (by kernel_rfl) c31 <|
  .cons (fn := Try.f32) (by kernel_rfl) c32 <|
  .cons (fn := Try.f33) (by kernel_rfl) c33 <|
  .cons (fn := Try.f34) (by kernel_rfl) c34 <|
  .cons (fn := Try.f36) (by kernel_rfl) c36 <|
  .cons (fn := Try.f37) (by kernel_rfl) c37 <|
  .cons (fn := Try.f44) (by kernel_rfl) c44 <|
  .cons (fn := Try.f45) (by kernel_rfl) c45 <|
  .cons (fn := Try.f46) (by kernel_rfl) c46 <|
  .cons (fn := Try.f47) (by kernel_rfl) c47 <|
  .cons (fn := Try.f48) (by kernel_rfl) c48 <|
  .cons (fn := Try.f50) (by kernel_rfl) c50 <|
  .cons (fn := Try.f51) (by kernel_rfl) c51 <|
  .cons (fn := Try.f64) (by kernel_rfl) c64 <|
  .cons (fn := Try.f65) (by kernel_rfl) c65 <|
  .cons (fn := Try.f70) (by kernel_rfl) c70 <|
  .cons (fn := Try.f78) (by kernel_rfl) c78 <|
  .cons (fn := Try.f79) (by kernel_rfl) c79 <|
  .cons (fn := Try.f80) (by kernel_rfl) c80 <|
  .cons (fn := Try.f81) (by kernel_rfl) c81 <|
  .cons (fn := Try.f82) (by kernel_rfl) c82 <|
  .cons (fn := Try.f97) (by kernel_rfl) c97 <|
  .cons (fn := Try.f98) (by kernel_rfl) c98 <|
  .cons (fn := Try.f99) (by kernel_rfl) c99 <|
  .cons (fn := Try.f101) (by kernel_rfl) c101 <|
  .cons (fn := Try.f103) (by kernel_rfl) c103 <|
  .cons (fn := Try.f104) (by kernel_rfl) c104 <|
  .cons (fn := Try.f105) (by kernel_rfl) c105 <|
  .cons (fn := Try.f106) (by kernel_rfl) c106 <|
  .cons (fn := Try.f107) (by kernel_rfl) c107 <|
  .cons (fn := Try.f112) (by kernel_rfl) c112 <|
  .cons (fn := Try.f113) (by kernel_rfl) c113 <|
  .cons (fn := Try.f115) (by kernel_rfl) c115 <|
  .cons (fn := Try.f116) (by kernel_rfl) c116 <|
  .cons (fn := Try.f117) (by kernel_rfl) c117 <|
  .cons (fn := Try.f118) (by kernel_rfl) c118 <|
  .cons (fn := Try.f121) (by kernel_rfl) c121 <|
  .cons (fn := Try.f122) (by kernel_rfl) c122 <|
  .cons (fn := Try.f123) (by kernel_rfl) c123 <|
  .cons (fn := Try.f124) (by kernel_rfl) c124 <|
  .cons (fn := Try.f125) (by kernel_rfl) c125 <|
  .cons (fn := Try.f126) (by kernel_rfl) c126 <|
  .cons (fn := Try.f127) (by kernel_rfl) c127 <|
  .cons (fn := Try.f128) (by kernel_rfl) c128 <|
  .cons (fn := Try.f129) (by kernel_rfl) c129 <|
  .cons (fn := Try.f130) (by kernel_rfl) c130 <|
  .cons (fn := Try.f131) (by kernel_rfl) c131 <|
  .cons (fn := Try.f132) (by kernel_rfl) c132 <|
  .cons (fn := Try.f133) (by kernel_rfl) c133 <|
  .cons (fn := Try.f134) (by kernel_rfl) c134 <|
  .cons (fn := Try.f136) (by kernel_rfl) c136 <|
  .cons (fn := Try.f137) (by kernel_rfl) c137 <|
  .cons (fn := Try.f138) (by kernel_rfl) c138 <|
  .cons (fn := Try.f139) (by kernel_rfl) c139 <|
  .cons (fn := Try.f140) (by kernel_rfl) c140 <|
  .cons (fn := Try.f141) (by kernel_rfl) c141 <|
  .cons (fn := Try.f142) (by kernel_rfl) c142 <|
  .cons (fn := Try.f143) (by kernel_rfl) c143 <|
  .cons (fn := Try.f144) (by kernel_rfl) c144 <|
  .cons (fn := Try.f145) (by kernel_rfl) c145 <|
  .cons (fn := Try.f146) (by kernel_rfl) c146 <|
  .nil

/-- slices.Clone[[]broadside/api.Own,broadside/api.Own] -/
def cl96 : CloneText Try.prog Try.f96 104 3 40 (.agg [(.int .i64 0), (.int .i64 0), .nsl]) :=
  ⟨_, _, _, _, _, _, _, _, _, 49, 49, 104, rfl, by kernel_rfl, by kernel_rfl, rfl, rfl, rfl, by kernel_rfl, by kernel_rfl, by kernel_rfl, rfl, rfl⟩

/-- slices.Clone[[]broadside/api.ID,broadside/api.ID] -/
def cl95 : CloneText Try.prog Try.f95 42 2 16 (.agg [(.int .i64 0), (.int .i64 0)]) :=
  ⟨_, _, _, _, _, _, _, _, _, 47, 47, 42, rfl, by kernel_rfl, by kernel_rfl, rfl, rfl, rfl, by kernel_rfl, by kernel_rfl, by kernel_rfl, rfl, rfl⟩

/-- slices.Clone[[]broadside/api.Advert,broadside/api.Advert] -/
def cl94 : CloneText Try.prog Try.f94 45 4 48 (.agg [(.int .i64 0), (.int .i64 0), .nsl, (.int .i64 0)]) :=
  ⟨_, _, _, _, _, _, _, _, _, 46, 46, 45, rfl, by kernel_rfl, by kernel_rfl, rfl, rfl, rfl, by kernel_rfl, by kernel_rfl, by kernel_rfl, rfl, rfl⟩

/-- slices.Clone[[]broadside/api.Entry,broadside/api.Entry] -/
def cl77 : CloneText Try.prog Try.f77 71 7 72 (.agg [(.int .i64 0), (.int .i64 0), (.int .i64 0), (.int .i64 0), .nsl, (.int .i64 0), (.bool false)]) :=
  ⟨_, _, _, _, _, _, _, _, _, 48, 48, 71, rfl, by kernel_rfl, by kernel_rfl, rfl, rfl, rfl, by kernel_rfl, by kernel_rfl, by kernel_rfl, rfl, rfl⟩

/-- slices.Clone[[]int,int] -/
def cl49 : CloneText Try.prog Try.f49 3 1 8 (.int .i64 0) :=
  ⟨_, _, _, _, _, _, _, _, _, 22, 22, 3, rfl, by kernel_rfl, by kernel_rfl, rfl, rfl, rfl, by kernel_rfl, by kernel_rfl, by kernel_rfl, rfl, rfl⟩

def hooks : List (Nat × Hook) := [(114, overlapsHook), (102, overlapsHook), (100, overlapsHook), (96, cloneHook 104 3 40), (95, cloneHook 42 2 16), (94, cloneHook 45 4 48), (77, cloneHook 71 7 72), (49, cloneHook 3 1 8)]

theorem hooks_ok : HooksOk Try.prog hooks :=
  .cons (overlaps_ok (fn := Try.f114) (tS := 48) (tR := 4) (e := 71) (by kernel_rfl) (by kernel_rfl) (by kernel_rfl) (by kernel_rfl) (by kernel_rfl) (by kernel_rfl) (by kernel_rfl)) <|
  .cons (overlaps_ok (fn := Try.f102) (tS := 47) (tR := 4) (e := 42) (by kernel_rfl) (by kernel_rfl) (by kernel_rfl) (by kernel_rfl) (by kernel_rfl) (by kernel_rfl) (by kernel_rfl)) <|
  .cons (overlaps_ok (fn := Try.f100) (tS := 46) (tR := 4) (e := 45) (by kernel_rfl) (by kernel_rfl) (by kernel_rfl) (by kernel_rfl) (by kernel_rfl) (by kernel_rfl) (by kernel_rfl)) <|
  .cons (clone_ok (fn := Try.f96) (by kernel_rfl) (by kernel_rfl) (by kernel_rfl) cl96) <|
  .cons (clone_ok (fn := Try.f95) (by kernel_rfl) (by kernel_rfl) (by kernel_rfl) cl95) <|
  .cons (clone_ok (fn := Try.f94) (by kernel_rfl) (by kernel_rfl) (by kernel_rfl) cl94) <|
  .cons (clone_ok (fn := Try.f77) (by kernel_rfl) (by kernel_rfl) (by kernel_rfl) cl77) <|
  .cons (clone_ok (fn := Try.f49) (by kernel_rfl) (by kernel_rfl) (by kernel_rfl) cl49) <|
  .nil

def D : DProg := hookedD tab hooks

theorem good : Good Try.prog D := hookedD_good (by kernel_rfl) tab_ok hooks_ok

end Go.Dm.TabC
