/-
The table of functions (TabA). Written by program (wip/tools/table.lean.txt).
-/
import Derived.Test.YtniceconboecgaaTabA0
import Derived.Test.YtniceconboecgaaTabA1
import Derived.Test.YtniceconboecgaaTabA2
namespace Go.Dm.TabA
open Go.Proofs

def tab : List (Nat × DFunc) := [(3, t3), (12, t12), (13, t13), (14, t14), (15, t15), (16, t16), (20, t20), (40, t40), (43, t43), (50, t50), (51, t51), (92, t92), (93, t93), (104, t104), (105, t105), (120, t120), (123, t123), (124, t124), (125, t125), (126, t126), (127, t127), (128, t128), (129, t129), (130, t130), (131, t131), (132, t132), (133, t133), (134, t134), (140, t140), (141, t141), (142, t142), (143, t143), (144, t144), (146, t146)]

theorem tab_ok : TabOk Try.prog tab :=
  .cons (fn := Try.f3) (by kernel_rfl) c3 <|
  .cons (fn := Try.f12) (by kernel_rfl) c12 <|
  .cons (fn := Try.f13) (by kernel_rfl) c13 <|
  .cons (fn := Try.f14) (by kernel_rfl) c14 <|
  .cons (fn := Try.f15) (by kernel_rfl) c15 <|
  .cons (fn := Try.f16) (by kernel_rfl) c16 <|
  .cons (fn := Try.f20) (by kernel_rfl) c20 <|
  .cons (fn := Try.f40) (by kernel_rfl) c40 <|
  .cons (fn := Try.f43) (by kernel_rfl) c43 <|
  .cons (fn := Try.f50) (by kernel_rfl) c50 <|
  .cons (fn := Try.f51) (by kernel_rfl) c51 <|
  .cons (fn := Try.f92) (by kernel_rfl) c92 <|
  .cons (fn := Try.f93) (by kernel_rfl) c93 <|
  .cons (fn := Try.f104) (by kernel_rfl) c104 <|
  .cons (fn := Try.f105) (by kernel_rfl) c105 <|
  .cons (fn := Try.f120) (by kernel_rfl) c120 <|
  .cons (fn := Try.f123) (by kernel_rfl) c123 <|
  .cons (fn := Try.f124) (by kernel_rfl) c124 <|
  .cons (fn := Try.f125) (by kernel_rfl) c125 <|
  .cons (fn := Try.f126) (by kernel_rfl) c126 <|
  .cons (fn := Try.f127) (by kernel_rfl) c127 <|
  .cons (fn := Try.f128) (by kernel_rfl) c128 <|
  .cons (fn := Try.f129) (by kernel_rfl) c129 <|
  .cons (fn := Try.f130) (by kernel_rfl) c130 <|
  .cons (fn := Try.f131) (by kernel_rfl) c131 <|
  .cons (fn := Try.f132) (by kernel_rfl) c132 <|
  .cons (fn := Try.f133) (by kernel_rfl) c133 <|
  .cons (fn := Try.f134) (by kernel_rfl) c134 <|
  .cons (fn := Try.f140) (by kernel_rfl) c140 <|
  .cons (fn := Try.f141) (by kernel_rfl) c141 <|
  .cons (fn := Try.f142) (by kernel_rfl) c142 <|
  .cons (fn := Try.f143) (by kernel_rfl) c143 <|
  .cons (fn := Try.f144) (by kernel_rfl) c144 <|
  .cons (fn := Try.f146) (by kernel_rfl) c146 <|
  .nil

theorem good : Good Try.prog (plainD tab) := plainD_good (by kernel_rfl) tab_ok (by kernel_rfl)

end Go.Dm.TabA
