/-
The table of functions (TabB). Written by program (wip/tools/table.lean.txt).
-/
import Derived.Test.YtniceconboecgaaTabB0
import Derived.Test.YtniceconboecgaaTabB1
import Derived.Test.YtniceconboecgaaTabB2
import Derived.Test.YtniceconboecgaaTabB3
import Derived.Test.YtniceconboecgaaTabB4
import Derived.Test.YtniceconboecgaaTabB5
import Derived.Test.YtniceconboecgaaTabB6
namespace Go.Dm.TabB
open Go.Proofs

def tab : List (Nat × DFunc) := [(6, t6), (12, t12), (22, t22), (23, t23), (24, t24), (25, t25), (26, t26), (28, t28), (29, t29), (40, t40), (44, t44), (45, t45), (46, t46), (47, t47), (48, t48), (49, t49), (50, t50), (51, t51), (52, t52), (53, t53), (54, t54), (55, t55), (56, t56), (57, t57), (58, t58), (59, t59), (60, t60), (61, t61), (62, t62), (63, t63), (64, t64), (65, t65), (66, t66), (67, t67), (68, t68), (69, t69), (70, t70), (71, t71), (72, t72), (73, t73), (74, t74), (77, t77), (92, t92), (94, t94), (95, t95), (96, t96), (97, t97), (98, t98), (99, t99), (101, t101), (103, t103), (104, t104), (105, t105), (106, t106), (107, t107), (108, t108), (109, t109), (110, t110), (121, t121), (122, t122), (123, t123), (124, t124), (125, t125), (126, t126), (127, t127), (128, t128), (129, t129), (130, t130), (131, t131), (132, t132), (133, t133), (134, t134), (135, t135), (138, t138), (139, t139), (140, t140), (141, t141), (142, t142), (143, t143), (144, t144), (146, t146)]

theorem tab_ok : TabOk Try.prog tab :=
  .cons (fn := Try.f6) (by kernel_rfl) c6 <|
  .cons (fn := Try.f12) (by kernel_rfl) c12 <|
  .cons (fn := Try.f22) (by kernel_rfl) c22 <|
  .cons (fn := Try.f23) (by kernel_rfl) c23 <|
  .cons (fn := Try.f24) (by kernel_rfl) c24 <|
  .cons (fn := Try.f25) (by kernel_rfl) c25 <|
  .cons (fn := Try.f26) (by kernel_rfl) c26 <|
  .cons (fn := Try.f28) (by kernel_rfl) c28 <|
  .cons (fn := Try.f29) (by kernel_rfl) c29 <|
  .cons (fn := Try.f40) (by kernel_rfl) c40 <|
  .cons (fn := Try.f44) (by kernel_rfl) c44 <|
  .cons (fn := Try.f45) (by kernel_rfl) c45 <|
  .cons (fn := Try.f46) (by kernel_rfl) c46 <|
  .cons (fn := Try.f47) (by kernel_rfl) c47 <|
  .cons (fn := Try.f48) (by kernel_rfl) c48 <|
  .cons (fn := Try.f49) (by kernel_rfl) c49 <|
  .cons (fn := Try.f50) (by kernel_rfl) c50 <|
  .cons (fn := Try.f51) (by kernel_rfl) c51 <|
  .cons (fn := Try.f52) (by kernel_rfl) c52 <|
  .cons (fn := Try.f53) (by kernel_rfl) c53 <|
  .cons (fn := Try.f54) (by kernel_rfl) c54 <|
  .cons (fn := Try.f55) (by kernel_rfl) c55 <|
  .cons (fn := Try.f56) (by kernel_rfl) c56 <|
  .cons (fn := Try.f57) (by kernel_rfl) c57 <|
  .cons (fn := Try.f58) (by kernel_rfl) c58 <|
  .cons (fn := Try.f59) (by kernel_rfl) c59 <|
  .cons (fn := Try.f60) (by kernel_rfl) c60 <|
  .cons (fn := Try.f61) (by kernel_rfl) c61 <|
  .cons (fn := Try.f62) (by kernel_rfl) c62 <|
  .cons (fn := Try.f63) (by kernel_rfl) c63 <|
  .cons (fn := Try.f64) (by kernel_rfl) c64 <|
  .cons (fn := Try.f65) (by kernel_rfl) c65 <|
  .cons (fn := Try.f66) (by kernel_rfl) c66 <|
  .cons (fn := Try.f67) (by kernel_rfl) c67 <|
  .cons (fn := Try.f68) (by kernel_rfl) c68 <|
  .cons (fn := Try.f69) (by kernel_rfl) c69 <|
  .cons (fn := Try.f70) (by kernel_rfl) c70 <|
  .cons (fn := Try.f71) (by kernel_rfl) c71 <|
  .cons (fn := Try.f72) (by kernel_rfl) c72 <|
  .cons (fn := Try.f73) (by kernel_rfl) c73 <|
  .cons (fn := Try.f74) (by kernel_rfl) c74 <|
  .cons (fn := Try.f77) (by kernel_rfl) c77 <|
  .cons (fn := Try.f92) (by kernel_rfl) c92 <|
  .cons (fn := Try.f94) (by kernel_rfl) c94 <|
  .cons (fn := Try.f95) (by kernel_rfl) c95 <|
  .cons (fn := Try.f96) (by kernel_rfl) c96 <|
  .cons (fn := Try.f97) (by kernel_rfl) c97 <|
  .cons (fn := Try.f98) (by kernel_rfl) c98 <|
  .cons (fn := Try.f99) (by kernel_rfl) c99 <|
  .cons (fn := Try.f101) (by kernel_rfl) c101 <|
  .cons (fn := Try.f103) (by kernel_rfl) c103 <|
  .cons (fn := Try.f104) (by kernel_rfl) c104 <|
  .cons (fn := Try.f105) (by kernel_rfl) c105 <|
  .cons (fn := Try.f106) (by kernel_rfl) c106 <|
  .cons (fn := Try.f107) (by kernel_rfl) c107 <|
  .cons (fn := Try.f108) (by kernel_rfl) c108 <|
  .cons (fn := Try.f109) (by kernel_rfl) c109 <|
  .cons (fn := Try.f110) (by kernel_rfl) c110 <|
  .cons (fn := Try.f121) (by kernel_rfl) c121 <|
  .cons (fn := Try.f122) (by kernel_rfl) c122 <|
  .cons (fn := Try.f123) (by kernel_rfl) c123 <|
  .cons (fn := Try.f124) (by kernel_rfl) c124 <|
  .cons (fn := Try.f125) (by kernel_rfl) c125 <|
  .cons (fn := Try.f126) (by kernel_rfl) c126 <|
  .cons (fn := Try.f127) (by kernel_rfl) c127 <|
  .cons (fn := Try.f128) (by kernel_rfl) c128 <|
  .cons (fn := Try.f129) (by kernel_rfl) c129 <|
  .cons (fn := Try.f130) (by kernel_rfl) c130 <|
  .cons (fn := Try.f131) (by kernel_rfl) c131 <|
  .cons (fn := Try.f132) (by kernel_rfl) c132 <|
  .cons (fn := Try.f133) (by kernel_rfl) c133 <|
  .cons (fn := Try.f134) (by kernel_rfl) c134 <|
  .cons (fn := Try.f135) (by kernel_rfl) c135 <|
  .cons (fn := Try.f138) (by kernel_rfl) c138 <|
  .cons (fn := Try.f139) (by kernel_rfl) c139 <|
  .cons (fn := Try.f140) (by kernel_rfl) c140 <|
  .cons (fn := Try.f141) (by kernel_rfl) c141 <|
  .cons (fn := Try.f142) (by kernel_rfl) c142 <|
  .cons (fn := Try.f143) (by kernel_rfl) c143 <|
  .cons (fn := Try.f144) (by kernel_rfl) c144 <|
  .cons (fn := Try.f146) (by kernel_rfl) c146 <|
  .nil

theorem good : Good Try.prog (plainD tab) := plainD_good (by kernel_rfl) tab_ok (by kernel_rfl)

end Go.Dm.TabB
