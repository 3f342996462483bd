/-
The table of functions (TabR). Written by program (wip/tools/table.lean.txt).
-/
import Derived.Test.YtdacnhfdcejahaaGreatTabR0
import Derived.Test.YtdacnhfdcejahaaGreatTabR1
import Derived.Test.YtdacnhfdcejahaaGreatTabR2
import Derived.Test.YtdacnhfdcejahaaGreatTabR3
import Derived.Test.YtdacnhfdcejahaaGreatTabR4
import Derived.Test.YtdacnhfdcejahaaGreatTabR5
import Derived.Test.YtdacnhfdcejahaaGreatTabR6
import Derived.Test.YtdacnhfdcejahaaGreatTabR7
namespace Go.Dm.TabR
open Go.Proofs

def tab : List (Nat × DFunc) := [(3, t3), (4, t4), (5, t5), (6, t6), (7, t7), (8, t8), (9, t9), (10, t10), (11, t11), (12, t12), (13, t13), (15, t15), (16, t16), (17, t17), (18, t18), (20, t20), (21, t21), (22, t22), (23, t23), (27, t27), (28, t28), (29, t29), (30, t30), (32, t32), (34, t34), (35, t35), (36, t36), (37, t37), (38, t38), (39, t39), (41, t41), (42, t42), (43, t43), (44, t44), (45, t45), (46, t46), (47, t47), (48, t48), (49, t49), (50, t50), (51, t51), (52, t52), (53, t53), (54, t54), (55, t55), (56, t56), (57, t57), (58, t58), (59, t59), (60, t60), (61, t61), (62, t62), (63, t63), (64, t64), (65, t65), (66, t66), (67, t67), (68, t68), (69, t69), (70, t70), (71, t71), (72, t72), (73, t73), (74, t74), (75, t75), (76, t76), (77, t77), (78, t78), (79, t79), (80, t80), (81, t81), (82, t82), (83, t83), (84, t84), (85, t85), (86, t86), (87, t87), (88, t88), (89, t89), (90, t90), (91, t91), (92, t92), (94, t94), (95, t95), (96, t96), (97, t97), (98, t98), (100, t100), (101, t101), (102, t102), (103, t103), (105, t105), (106, t106), (107, t107), (108, t108), (109, t109)]

theorem tab_ok : TabOk Tryz.prog tab :=
  .cons (fn := Tryz.f3) (by kernel_rfl) c3 <|
  .cons (fn := Tryz.f4) (by kernel_rfl) c4 <|
  .cons (fn := Tryz.f5) (by kernel_rfl) c5 <|
  .cons (fn := Tryz.f6) (by kernel_rfl) c6 <|
  .cons (fn := Tryz.f7) (by kernel_rfl) c7 <|
  .cons (fn := Tryz.f8) (by kernel_rfl) c8 <|
  .cons (fn := Tryz.f9) (by kernel_rfl) c9 <|
  .cons (fn := Tryz.f10) (by kernel_rfl) c10 <|
  .cons (fn := Tryz.f11) (by kernel_rfl) c11 <|
  .cons (fn := Tryz.f12) (by kernel_rfl) c12 <|
  .cons (fn := Tryz.f13) (by kernel_rfl) c13 <|
  .cons (fn := Tryz.f15) (by kernel_rfl) c15 <|
  .cons (fn := Tryz.f16) (by kernel_rfl) c16 <|
  .cons (fn := Tryz.f17) (by kernel_rfl) c17 <|
  .cons (fn := Tryz.f18) (by kernel_rfl) c18 <|
  .cons (fn := Tryz.f20) (by kernel_rfl) c20 <|
  .cons (fn := Tryz.f21) (by kernel_rfl) c21 <|
  .cons (fn := Tryz.f22) (by kernel_rfl) c22 <|
  .cons (fn := Tryz.f23) (by kernel_rfl) c23 <|
  .cons (fn := Tryz.f27) (by kernel_rfl) c27 <|
  .cons (fn := Tryz.f28) (by kernel_rfl) c28 <|
  .cons (fn := Tryz.f29) (by kernel_rfl) c29 <|
  .cons (fn := Tryz.f30) (by kernel_rfl) c30 <|
  .cons (fn := Tryz.f32) (by kernel_rfl) c32 <|
  .cons (fn := Tryz.f34) (by kernel_rfl) c34 <|
  .cons (fn := Tryz.f35) (by kernel_rfl) c35 <|
  .cons (fn := Tryz.f36) (by kernel_rfl) c36 <|
  .cons (fn := Tryz.f37) (by kernel_rfl) c37 <|
  .cons (fn := Tryz.f38) (by kernel_rfl) c38 <|
  .cons (fn := Tryz.f39) (by kernel_rfl) c39 <|
  .cons (fn := Tryz.f41) (by kernel_rfl) c41 <|
  .cons (fn := Tryz.f42) (by kernel_rfl) c42 <|
  .cons (fn := Tryz.f43) (by kernel_rfl) c43 <|
  .cons (fn := Tryz.f44) (by kernel_rfl) c44 <|
  .cons (fn := Tryz.f45) (by kernel_rfl) c45 <|
  .cons (fn := Tryz.f46) (by kernel_rfl) c46 <|
  .cons (fn := Tryz.f47) (by kernel_rfl) c47 <|
  .cons (fn := Tryz.f48) (by kernel_rfl) c48 <|
  .cons (fn := Tryz.f49) (by kernel_rfl) c49 <|
  .cons (fn := Tryz.f50) (by kernel_rfl) c50 <|
  .cons (fn := Tryz.f51) (by kernel_rfl) c51 <|
  .cons (fn := Tryz.f52) (by kernel_rfl) c52 <|
  .cons (fn := Tryz.f53) (by kernel_rfl) c53 <|
  .cons (fn := Tryz.f54) (by kernel_rfl) c54 <|
  .cons (fn := Tryz.f55) (by kernel_rfl) c55 <|
  .cons (fn := Tryz.f56) (by kernel_rfl) c56 <|
  .cons (fn := Tryz.f57) (by kernel_rfl) c57 <|
  .cons (fn := Tryz.f58) (by kernel_rfl) c58 <|
  .cons (fn := Tryz.f59) (by kernel_rfl) c59 <|
  .cons (fn := Tryz.f60) (by kernel_rfl) c60 <|
  .cons (fn := Tryz.f61) (by kernel_rfl) c61 <|
  .cons (fn := Tryz.f62) (by kernel_rfl) c62 <|
  .cons (fn := Tryz.f63) (by kernel_rfl) c63 <|
  .cons (fn := Tryz.f64) (by kernel_rfl) c64 <|
  .cons (fn := Tryz.f65) (by kernel_rfl) c65 <|
  .cons (fn := Tryz.f66) (by kernel_rfl) c66 <|
  .cons (fn := Tryz.f67) (by kernel_rfl) c67 <|
  .cons (fn := Tryz.f68) (by kernel_rfl) c68 <|
  .cons (fn := Tryz.f69) (by kernel_rfl) c69 <|
  .cons (fn := Tryz.f70) (by kernel_rfl) c70 <|
  .cons (fn := Tryz.f71) (by kernel_rfl) c71 <|
  .cons (fn := Tryz.f72) (by kernel_rfl) c72 <|
  .cons (fn := Tryz.f73) (by kernel_rfl) c73 <|
  .cons (fn := Tryz.f74) (by kernel_rfl) c74 <|
  .cons (fn := Tryz.f75) (by kernel_rfl) c75 <|
  .cons (fn := Tryz.f76) (by kernel_rfl) c76 <|
  .cons (fn := Tryz.f77) (by kernel_rfl) c77 <|
  .cons (fn := Tryz.f78) (by kernel_rfl) c78 <|
  .cons (fn := Tryz.f79) (by kernel_rfl) c79 <|
  .cons (fn := Tryz.f80) (by kernel_rfl) c80 <|
  .cons (fn := Tryz.f81) (by kernel_rfl) c81 <|
  .cons (fn := Tryz.f82) (by kernel_rfl) c82 <|
  .cons (fn := Tryz.f83) (by kernel_rfl) c83 <|
  .cons (fn := Tryz.f84) (by kernel_rfl) c84 <|
  .cons (fn := Tryz.f85) (by kernel_rfl) c85 <|
  .cons (fn := Tryz.f86) (by kernel_rfl) c86 <|
  .cons (fn := Tryz.f87) (by kernel_rfl) c87 <|
  .cons (fn := Tryz.f88) (by kernel_rfl) c88 <|
  .cons (fn := Tryz.f89) (by kernel_rfl) c89 <|
  .cons (fn := Tryz.f90) (by kernel_rfl) c90 <|
  .cons (fn := Tryz.f91) (by kernel_rfl) c91 <|
  .cons (fn := Tryz.f92) (by kernel_rfl) c92 <|
  .cons (fn := Tryz.f94) (by kernel_rfl) c94 <|
  .cons (fn := Tryz.f95) (by kernel_rfl) c95 <|
  .cons (fn := Tryz.f96) (by kernel_rfl) c96 <|
  .cons (fn := Tryz.f97) (by kernel_rfl) c97 <|
  .cons (fn := Tryz.f98) (by kernel_rfl) c98 <|
  .cons (fn := Tryz.f100) (by kernel_rfl) c100 <|
  .cons (fn := Tryz.f101) (by kernel_rfl) c101 <|
  .cons (fn := Tryz.f102) (by kernel_rfl) c102 <|
  .cons (fn := Tryz.f103) (by kernel_rfl) c103 <|
  .cons (fn := Tryz.f105) (by kernel_rfl) c105 <|
  .cons (fn := Tryz.f106) (by kernel_rfl) c106 <|
  .cons (fn := Tryz.f107) (by kernel_rfl) c107 <|
  .cons (fn := Tryz.f108) (by kernel_rfl) c108 <|
  .cons (fn := Tryz.f109) (by kernel_rfl) c109 <|
  .nil

/-- slices.Clone[[]broadside/api.Entry,broadside/api.Entry] -/
def cl26 : CloneText Tryz.prog Tryz.f26 62 7 72 (.agg [(.int .i64 0), (.int .i64 0), (.int .i64 0), (.int .i64 0), .nsl, (.int .i64 0), (.bool false)]) :=
  ⟨_, _, _, _, _, _, _, _, _, 27, 27, 62, rfl, by kernel_rfl, by kernel_rfl, rfl, rfl, rfl, by kernel_rfl, by kernel_rfl, by kernel_rfl, rfl, rfl⟩

/-- slices.Clone[[]broadside/api.ID,broadside/api.ID] -/
def cl25 : CloneText Tryz.prog Tryz.f25 23 2 16 (.agg [(.int .i64 0), (.int .i64 0)]) :=
  ⟨_, _, _, _, _, _, _, _, _, 26, 26, 23, rfl, by kernel_rfl, by kernel_rfl, rfl, rfl, rfl, by kernel_rfl, by kernel_rfl, by kernel_rfl, rfl, rfl⟩

/-- slices.Clone[[]broadside/api.Advert,broadside/api.Advert] -/
def cl24 : CloneText Tryz.prog Tryz.f24 36 4 48 (.agg [(.int .i64 0), (.int .i64 0), .nsl, (.int .i64 0)]) :=
  ⟨_, _, _, _, _, _, _, _, _, 25, 25, 36, rfl, by kernel_rfl, by kernel_rfl, rfl, rfl, rfl, by kernel_rfl, by kernel_rfl, by kernel_rfl, rfl, rfl⟩

/-- slices.Clone[[]broadside/api.Own,broadside/api.Own] -/
def cl19 : CloneText Tryz.prog Tryz.f19 57 3 40 (.agg [(.int .i64 0), (.int .i64 0), .nsl]) :=
  ⟨_, _, _, _, _, _, _, _, _, 28, 28, 57, rfl, by kernel_rfl, by kernel_rfl, rfl, rfl, rfl, by kernel_rfl, by kernel_rfl, by kernel_rfl, rfl, rfl⟩

/-- slices.Clone[[]int,int] -/
def cl14 : CloneText Tryz.prog Tryz.f14 3 1 8 (.int .i64 0) :=
  ⟨_, _, _, _, _, _, _, _, _, 24, 24, 3, rfl, by kernel_rfl, by kernel_rfl, rfl, rfl, rfl, by kernel_rfl, by kernel_rfl, by kernel_rfl, rfl, rfl⟩

def hooks : List (Nat × Hook) := [(99, overlapsHook), (93, overlapsHook), (40, overlapsHook), (33, overlapsHook), (31, overlapsHook), (26, cloneHook 62 7 72), (25, cloneHook 23 2 16), (24, cloneHook 36 4 48), (19, cloneHook 57 3 40), (14, cloneHook 3 1 8)]

theorem hooks_ok : HooksOk Tryz.prog hooks :=
  .cons (overlaps_ok (fn := Tryz.f99) (tS := 34) (tR := 4) (e := 126) (by kernel_rfl) (by kernel_rfl) (by kernel_rfl) (by kernel_rfl) (by kernel_rfl) (by kernel_rfl) (by kernel_rfl)) <|
  .cons (overlaps_ok (fn := Tryz.f93) (tS := 27) (tR := 4) (e := 62) (by kernel_rfl) (by kernel_rfl) (by kernel_rfl) (by kernel_rfl) (by kernel_rfl) (by kernel_rfl) (by kernel_rfl)) <|
  .cons (overlaps_ok (fn := Tryz.f40) (tS := 28) (tR := 4) (e := 57) (by kernel_rfl) (by kernel_rfl) (by kernel_rfl) (by kernel_rfl) (by kernel_rfl) (by kernel_rfl) (by kernel_rfl)) <|
  .cons (overlaps_ok (fn := Tryz.f33) (tS := 26) (tR := 4) (e := 23) (by kernel_rfl) (by kernel_rfl) (by kernel_rfl) (by kernel_rfl) (by kernel_rfl) (by kernel_rfl) (by kernel_rfl)) <|
  .cons (overlaps_ok (fn := Tryz.f31) (tS := 25) (tR := 4) (e := 36) (by kernel_rfl) (by kernel_rfl) (by kernel_rfl) (by kernel_rfl) (by kernel_rfl) (by kernel_rfl) (by kernel_rfl)) <|
  .cons (clone_ok (fn := Tryz.f26) (by kernel_rfl) (by kernel_rfl) (by kernel_rfl) cl26) <|
  .cons (clone_ok (fn := Tryz.f25) (by kernel_rfl) (by kernel_rfl) (by kernel_rfl) cl25) <|
  .cons (clone_ok (fn := Tryz.f24) (by kernel_rfl) (by kernel_rfl) (by kernel_rfl) cl24) <|
  .cons (clone_ok (fn := Tryz.f19) (by kernel_rfl) (by kernel_rfl) (by kernel_rfl) cl19) <|
  .cons (clone_ok (fn := Tryz.f14) (by kernel_rfl) (by kernel_rfl) (by kernel_rfl) cl14) <|
  .nil

def D : DProg := hookedD tab hooks

theorem good : Good Tryz.prog D := hookedD_good (by kernel_rfl) tab_ok hooks_ok

end Go.Dm.TabR
