/-
The table of functions (TabF). Written by program (wip/tools/table.lean.txt).
-/
import Derived.Test.YtdacnhfdcejahaaTabF0
import Derived.Test.YtdacnhfdcejahaaTabF1
import Derived.Test.YtdacnhfdcejahaaTabF2
import Derived.Test.YtdacnhfdcejahaaTabF3
import Derived.Test.YtdacnhfdcejahaaTabF4
import Derived.Test.YtdacnhfdcejahaaTabF5
import Derived.Test.YtdacnhfdcejahaaTabF6
import Derived.Test.YtdacnhfdcejahaaTabF7
namespace Go.Dm.TabF
open Go.Proofs

def tab : List (Nat × DFunc) := [(3, t3), (4, t4), (5, t5), (6, t6), (8, t8), (9, t9), (10, t10), (11, t11), (12, t12), (13, t13), (14, t14), (15, t15), (16, t16), (17, t17), (18, t18), (19, t19), (20, t20), (21, t21), (22, t22), (23, t23), (25, t25), (26, t26), (27, t27), (28, t28), (29, t29), (30, t30), (31, t31), (32, t32), (33, t33), (34, t34), (35, t35), (36, t36), (37, t37), (38, t38), (39, t39), (40, t40), (41, t41), (42, t42), (46, t46), (47, t47), (48, t48), (49, t49), (51, t51), (53, t53), (54, t54), (55, t55), (56, t56), (57, t57), (58, t58), (59, t59), (60, t60), (61, t61), (62, t62), (64, t64), (65, t65), (66, t66), (67, t67), (68, t68), (69, t69), (70, t70), (71, t71), (72, t72), (73, t73), (74, t74), (75, t75), (76, t76), (77, t77), (78, t78), (79, t79), (80, t80), (81, t81), (82, t82), (83, t83), (84, t84), (85, t85), (86, t86), (87, t87), (88, t88), (89, t89), (90, t90), (91, t91), (92, t92), (94, t94), (95, t95), (96, t96), (98, t98), (99, t99), (100, t100)]

theorem tab_ok : TabOk Try.prog tab :=
  .cons (fn := Try.f3) (by kernel_rfl) c3 <|
  .cons (fn := Try.f4) (by kernel_rfl) c4 <|
  .cons (fn := Try.f5) (by kernel_rfl) c5 <|
  .cons (fn := Try.f6) (by kernel_rfl) c6 <|
  .cons (fn := Try.f8) (by kernel_rfl) c8 <|
  .cons (fn := Try.f9) (by kernel_rfl) c9 <|
  .cons (fn := Try.f10) (by kernel_rfl) c10 <|
  .cons (fn := Try.f11) (by kernel_rfl) c11 <|
  .cons (fn := Try.f12) (by kernel_rfl) c12 <|
  .cons (fn := Try.f13) (by kernel_rfl) c13 <|
  .cons (fn := Try.f14) (by kernel_rfl) c14 <|
  .cons (fn := Try.f15) (by kernel_rfl) c15 <|
  .cons (fn := Try.f16) (by kernel_rfl) c16 <|
  .cons (fn := Try.f17) (by kernel_rfl) c17 <|
  .cons (fn := Try.f18) (by kernel_rfl) c18 <|
  .cons (fn := Try.f19) (by kernel_rfl) c19 <|
  .cons (fn := Try.f20) (by kernel_rfl) c20 <|
  .cons (fn := Try.f21) (by kernel_rfl) c21 <|
  .cons (fn := Try.f22) (by kernel_rfl) c22 <|
  .cons (fn := Try.f23) (by kernel_rfl) c23 <|
  .cons (fn := Try.f25) (by kernel_rfl) c25 <|
  .cons (fn := Try.f26) (by kernel_rfl) c26 <|
  .cons (fn := Try.f27) (by kernel_rfl) c27 <|
  .cons (fn := Try.f28) (by kernel_rfl) c28 <|
  .cons (fn := Try.f29) (by kernel_rfl) c29 <|
  .cons (fn := Try.f30) (by kernel_rfl) c30 <|
  .cons (fn := Try.f31) (by kernel_rfl) c31 <|
  .cons (fn := Try.f32) (by kernel_rfl) c32 <|
  .cons (fn := Try.f33) (by kernel_rfl) c33 <|
  .cons (fn := Try.f34) (by kernel_rfl) c34 <|
  .cons (fn := Try.f35) (by kernel_rfl) c35 <|
  .cons (fn := Try.f36) (by kernel_rfl) c36 <|
  .cons (fn := Try.f37) (by kernel_rfl) c37 <|
  .cons (fn := Try.f38) (by kernel_rfl) c38 <|
  .cons (fn := Try.f39) (by kernel_rfl) c39 <|
  .cons (fn := Try.f40) (by kernel_rfl) c40 <|
  .cons (fn := Try.f41) (by kernel_rfl) c41 <|
  .cons (fn := Try.f42) (by kernel_rfl) c42 <|
  .cons (fn := Try.f46) (by kernel_rfl) c46 <|
  .cons (fn := Try.f47) (by kernel_rfl) c47 <|
  .cons (fn := Try.f48) (by kernel_rfl) c48 <|
  .cons (fn := Try.f49) (by kernel_rfl) c49 <|
  .cons (fn := Try.f51) (by kernel_rfl) c51 <|
  .cons (fn := Try.f53) (by kernel_rfl) c53 <|
  .cons (fn := Try.f54) (by kernel_rfl) c54 <|
  .cons (fn := Try.f55) (by kernel_rfl) c55 <|
  .cons (fn := Try.f56) (by kernel_rfl) c56 <|
  .cons (fn := Try.f57) (by kernel_rfl) c57 <|
  .cons (fn := Try.f58) (by kernel_rfl) c58 <|
  .cons (fn := Try.f59) (by kernel_rfl) c59 <|
  .cons (fn := Try.f60) (by kernel_rfl) c60 <|
  .cons (fn := Try.f61) (by kernel_rfl) c61 <|
  .cons (fn := Try.f62) (by kernel_rfl) c62 <|
  .cons (fn := Try.f64) (by kernel_rfl) c64 <|
  .cons (fn := Try.f65) (by kernel_rfl) c65 <|
  .cons (fn := Try.f66) (by kernel_rfl) c66 <|
  .cons (fn := Try.f67) (by kernel_rfl) c67 <|
  .cons (fn := Try.f68) (by kernel_rfl) c68 <|
  .cons (fn := Try.f69) (by kernel_rfl) c69 <|
  .cons (fn := Try.f70) (by kernel_rfl) c70 <|
  .cons (fn := Try.f71) (by kernel_rfl) c71 <|
  .cons (fn := Try.f72) (by kernel_rfl) c72 <|
  .cons (fn := Try.f73) (by kernel_rfl) c73 <|
  .cons (fn := Try.f74) (by kernel_rfl) c74 <|
  .cons (fn := Try.f75) (by kernel_rfl) c75 <|
  .cons (fn := Try.f76) (by kernel_rfl) c76 <|
  .cons (fn := Try.f77) (by kernel_rfl) c77 <|
  .cons (fn := Try.f78) (by kernel_rfl) c78 <|
  .cons (fn := Try.f79) (by kernel_rfl) c79 <|
  .cons (fn := Try.f80) (by kernel_rfl) c80 <|
  .cons (fn := Try.f81) (by kernel_rfl) c81 <|
  .cons (fn := Try.f82) (by kernel_rfl) c82 <|
  .cons (fn := Try.f83) (by kernel_rfl) c83 <|
  .cons (fn := Try.f84) (by kernel_rfl) c84 <|
  .cons (fn := Try.f85) (by kernel_rfl) c85 <|
  .cons (fn := Try.f86) (by kernel_rfl) c86 <|
  .cons (fn := Try.f87) (by kernel_rfl) c87 <|
  .cons (fn := Try.f88) (by kernel_rfl) c88 <|
  .cons (fn := Try.f89) (by kernel_rfl) c89 <|
  .cons (fn := Try.f90) (by kernel_rfl) c90 <|
  .cons (fn := Try.f91) (by kernel_rfl) c91 <|
  .cons (fn := Try.f92) (by kernel_rfl) c92 <|
  .cons (fn := Try.f94) (by kernel_rfl) c94 <|
  .cons (fn := Try.f95) (by kernel_rfl) c95 <|
  .cons (fn := Try.f96) (by kernel_rfl) c96 <|
  .cons (fn := Try.f98) (by kernel_rfl) c98 <|
  .cons (fn := Try.f99) (by kernel_rfl) c99 <|
  .cons (fn := Try.f100) (by kernel_rfl) c100 <|
  .nil

/-- slices.Clone[[]broadside/api.Own,broadside/api.Own] -/
def cl45 : CloneText Try.prog Try.f45 34 3 40 (.agg [(.int .i64 0), (.int .i64 0), .nsl]) :=
  ⟨_, _, _, _, _, _, _, _, _, 26, 26, 34, rfl, by kernel_rfl, by kernel_rfl, rfl, rfl, rfl, by kernel_rfl, by kernel_rfl, by kernel_rfl, rfl, rfl⟩

/-- slices.Clone[[]broadside/api.ID,broadside/api.ID] -/
def cl44 : CloneText Try.prog Try.f44 31 2 16 (.agg [(.int .i64 0), (.int .i64 0)]) :=
  ⟨_, _, _, _, _, _, _, _, _, 24, 24, 31, rfl, by kernel_rfl, by kernel_rfl, rfl, rfl, rfl, by kernel_rfl, by kernel_rfl, by kernel_rfl, rfl, rfl⟩

/-- slices.Clone[[]broadside/api.Advert,broadside/api.Advert] -/
def cl43 : CloneText Try.prog Try.f43 50 4 48 (.agg [(.int .i64 0), (.int .i64 0), .nsl, (.int .i64 0)]) :=
  ⟨_, _, _, _, _, _, _, _, _, 23, 23, 50, rfl, by kernel_rfl, by kernel_rfl, rfl, rfl, rfl, by kernel_rfl, by kernel_rfl, by kernel_rfl, rfl, rfl⟩

/-- slices.Clone[[]broadside/api.Entry,broadside/api.Entry] -/
def cl24 : CloneText Try.prog Try.f24 54 7 72 (.agg [(.int .i64 0), (.int .i64 0), (.int .i64 0), (.int .i64 0), .nsl, (.int .i64 0), (.bool false)]) :=
  ⟨_, _, _, _, _, _, _, _, _, 25, 25, 54, rfl, by kernel_rfl, by kernel_rfl, rfl, rfl, rfl, by kernel_rfl, by kernel_rfl, by kernel_rfl, rfl, rfl⟩

/-- slices.Clone[[]int,int] -/
def cl7 : CloneText Try.prog Try.f7 3 1 8 (.int .i64 0) :=
  ⟨_, _, _, _, _, _, _, _, _, 22, 22, 3, rfl, by kernel_rfl, by kernel_rfl, rfl, rfl, rfl, by kernel_rfl, by kernel_rfl, by kernel_rfl, rfl, rfl⟩

def hooks : List (Nat × Hook) := [(93, overlapsHook), (63, overlapsHook), (52, overlapsHook), (50, overlapsHook), (45, cloneHook 34 3 40), (44, cloneHook 31 2 16), (43, cloneHook 50 4 48), (24, cloneHook 54 7 72), (7, cloneHook 3 1 8)]

theorem hooks_ok : HooksOk Try.prog hooks :=
  .cons (overlaps_ok (fn := Try.f93) (tS := 32) (tR := 4) (e := 123) (by kernel_rfl) (by kernel_rfl) (by kernel_rfl) (by kernel_rfl) (by kernel_rfl) (by kernel_rfl) (by kernel_rfl)) <|
  .cons (overlaps_ok (fn := Try.f63) (tS := 25) (tR := 4) (e := 54) (by kernel_rfl) (by kernel_rfl) (by kernel_rfl) (by kernel_rfl) (by kernel_rfl) (by kernel_rfl) (by kernel_rfl)) <|
  .cons (overlaps_ok (fn := Try.f52) (tS := 24) (tR := 4) (e := 31) (by kernel_rfl) (by kernel_rfl) (by kernel_rfl) (by kernel_rfl) (by kernel_rfl) (by kernel_rfl) (by kernel_rfl)) <|
  .cons (overlaps_ok (fn := Try.f50) (tS := 23) (tR := 4) (e := 50) (by kernel_rfl) (by kernel_rfl) (by kernel_rfl) (by kernel_rfl) (by kernel_rfl) (by kernel_rfl) (by kernel_rfl)) <|
  .cons (clone_ok (fn := Try.f45) (by kernel_rfl) (by kernel_rfl) (by kernel_rfl) cl45) <|
  .cons (clone_ok (fn := Try.f44) (by kernel_rfl) (by kernel_rfl) (by kernel_rfl) cl44) <|
  .cons (clone_ok (fn := Try.f43) (by kernel_rfl) (by kernel_rfl) (by kernel_rfl) cl43) <|
  .cons (clone_ok (fn := Try.f24) (by kernel_rfl) (by kernel_rfl) (by kernel_rfl) cl24) <|
  .cons (clone_ok (fn := Try.f7) (by kernel_rfl) (by kernel_rfl) (by kernel_rfl) cl7) <|
  .nil

def D : DProg := hookedD tab hooks

theorem good : Good Try.prog D := hookedD_good (by kernel_rfl) tab_ok hooks_ok

end Go.Dm.TabF
