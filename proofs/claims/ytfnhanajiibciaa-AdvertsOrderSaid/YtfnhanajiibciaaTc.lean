/-
The table of functions (Tc). Written by program (wip/tools/table.lean.txt).
-/
import Derived.Test.YtfnhanajiibciaaTc0
import Derived.Test.YtfnhanajiibciaaTc1
import Derived.Test.YtfnhanajiibciaaTc2
namespace Go.Dm.Tc
open Go.Proofs
def tab:List (Nat×DFunc):=[(6,t6),(7,t7),(8,t8),(9,t9),(10,t10),(11,t11),(12,t12),(13,t13),(14,t14),(15,t15),(16,t16),(26,t26),(28,t28),(29,t29),(30,t30),(31,t31),(32,t32),(33,t33),(34,t34),(35,t35),(36,t36),(37,t37),(38,t38),(39,t39),(40,t40),(41,t41),(42,t42),(43,t43),(44,t44),(45,t45),(46,t46),(47,t47),(48,t48),(49,t49),(50,t50),(51,t51),(52,t52),(53,t53),(54,t54),(55,t55),(56,t56),(57,t57),(58,t58),(59,t59),(60,t60),(61,t61),(69,t69),(70,t70),(71,t71),(72,t72),(73,t73),(74,t74),(75,t75),(76,t76),(77,t77),(78,t78),(79,t79),(83,t83),(84,t84),(85,t85),(87,t87),(89,t89),(90,t90),(91,t91),(92,t92),(93,t93),(94,t94),(95,t95),(96,t96),(104,t104),(105,t105),(106,t106),(107,t107),(108,t108),(109,t109),(110,t110),(111,t111),(112,t112),(113,t113),(114,t114),(115,t115),(116,t116),(117,t117),(118,t118),(119,t119),(120,t120),(123,t123),(124,t124),(125,t125),(126,t126),(127,t127),(128,t128),(129,t129),(131,t131)]
set_option maxRecDepth 100000 in
theorem tab_ok:TabOk Try.prog tab :=
 .cons (fn:=Try.f6) (by kernel_rfl) c6 <|
 .cons (fn:=Try.f7) (by kernel_rfl) c7 <|
 .cons (fn:=Try.f8) (by kernel_rfl) c8 <|
 .cons (fn:=Try.f9) (by kernel_rfl) c9 <|
 .cons (fn:=Try.f10) (by kernel_rfl) c10 <|
 .cons (fn:=Try.f11) (by kernel_rfl) c11 <|
 .cons (fn:=Try.f12) (by kernel_rfl) c12 <|
 .cons (fn:=Try.f13) (by kernel_rfl) c13 <|
 .cons (fn:=Try.f14) (by kernel_rfl) c14 <|
 .cons (fn:=Try.f15) (by kernel_rfl) c15 <|
 .cons (fn:=Try.f16) (by kernel_rfl) c16 <|
 .cons (fn:=Try.f26) (by kernel_rfl) c26 <|
 .cons (fn:=Try.f28) (by kernel_rfl) c28 <|
 .cons (fn:=Try.f29) (by kernel_rfl) c29 <|
 .cons (fn:=Try.f30) (by kernel_rfl) c30 <|
 .cons (fn:=Try.f31) (by kernel_rfl) c31 <|
 .cons (fn:=Try.f32) (by kernel_rfl) c32 <|
 .cons (fn:=Try.f33) (by kernel_rfl) c33 <|
 .cons (fn:=Try.f34) (by kernel_rfl) c34 <|
 .cons (fn:=Try.f35) (by kernel_rfl) c35 <|
 .cons (fn:=Try.f36) (by kernel_rfl) c36 <|
 .cons (fn:=Try.f37) (by kernel_rfl) c37 <|
 .cons (fn:=Try.f38) (by kernel_rfl) c38 <|
 .cons (fn:=Try.f39) (by kernel_rfl) c39 <|
 .cons (fn:=Try.f40) (by kernel_rfl) c40 <|
 .cons (fn:=Try.f41) (by kernel_rfl) c41 <|
 .cons (fn:=Try.f42) (by kernel_rfl) c42 <|
 .cons (fn:=Try.f43) (by kernel_rfl) c43 <|
 .cons (fn:=Try.f44) (by kernel_rfl) c44 <|
 .cons (fn:=Try.f45) (by kernel_rfl) c45 <|
 .cons (fn:=Try.f46) (by kernel_rfl) c46 <|
 .cons (fn:=Try.f47) (by kernel_rfl) c47 <|
 .cons (fn:=Try.f48) (by kernel_rfl) c48 <|
 .cons (fn:=Try.f49) (by kernel_rfl) c49 <|
 .cons (fn:=Try.f50) (by kernel_rfl) c50 <|
 .cons (fn:=Try.f51) (by kernel_rfl) c51 <|
 .cons (fn:=Try.f52) (by kernel_rfl) c52 <|
 .cons (fn:=Try.f53) (by kernel_rfl) c53 <|
 .cons (fn:=Try.f54) (by kernel_rfl) c54 <|
 .cons (fn:=Try.f55) (by kernel_rfl) c55 <|
 .cons (fn:=Try.f56) (by kernel_rfl) c56 <|
 .cons (fn:=Try.f57) (by kernel_rfl) c57 <|
 .cons (fn:=Try.f58) (by kernel_rfl) c58 <|
 .cons (fn:=Try.f59) (by kernel_rfl) c59 <|
 .cons (fn:=Try.f60) (by kernel_rfl) c60 <|
 .cons (fn:=Try.f61) (by kernel_rfl) c61 <|
 .cons (fn:=Try.f69) (by kernel_rfl) c69 <|
 .cons (fn:=Try.f70) (by kernel_rfl) c70 <|
 .cons (fn:=Try.f71) (by kernel_rfl) c71 <|
 .cons (fn:=Try.f72) (by kernel_rfl) c72 <|
 .cons (fn:=Try.f73) (by kernel_rfl) c73 <|
 .cons (fn:=Try.f74) (by kernel_rfl) c74 <|
 .cons (fn:=Try.f75) (by kernel_rfl) c75 <|
 .cons (fn:=Try.f76) (by kernel_rfl) c76 <|
 .cons (fn:=Try.f77) (by kernel_rfl) c77 <|
 .cons (fn:=Try.f78) (by kernel_rfl) c78 <|
 .cons (fn:=Try.f79) (by kernel_rfl) c79 <|
 .cons (fn:=Try.f83) (by kernel_rfl) c83 <|
 .cons (fn:=Try.f84) (by kernel_rfl) c84 <|
 .cons (fn:=Try.f85) (by kernel_rfl) c85 <|
 .cons (fn:=Try.f87) (by kernel_rfl) c87 <|
 .cons (fn:=Try.f89) (by kernel_rfl) c89 <|
 .cons (fn:=Try.f90) (by kernel_rfl) c90 <|
 .cons (fn:=Try.f91) (by kernel_rfl) c91 <|
 .cons (fn:=Try.f92) (by kernel_rfl) c92 <|
 .cons (fn:=Try.f93) (by kernel_rfl) c93 <|
 .cons (fn:=Try.f94) (by kernel_rfl) c94 <|
 .cons (fn:=Try.f95) (by kernel_rfl) c95 <|
 .cons (fn:=Try.f96) (by kernel_rfl) c96 <|
 .cons (fn:=Try.f104) (by kernel_rfl) c104 <|
 .cons (fn:=Try.f105) (by kernel_rfl) c105 <|
 .cons (fn:=Try.f106) (by kernel_rfl) c106 <|
 .cons (fn:=Try.f107) (by kernel_rfl) c107 <|
 .cons (fn:=Try.f108) (by kernel_rfl) c108 <|
 .cons (fn:=Try.f109) (by kernel_rfl) c109 <|
 .cons (fn:=Try.f110) (by kernel_rfl) c110 <|
 .cons (fn:=Try.f111) (by kernel_rfl) c111 <|
 .cons (fn:=Try.f112) (by kernel_rfl) c112 <|
 .cons (fn:=Try.f113) (by kernel_rfl) c113 <|
 .cons (fn:=Try.f114) (by kernel_rfl) c114 <|
 .cons (fn:=Try.f115) (by kernel_rfl) c115 <|
 .cons (fn:=Try.f116) (by kernel_rfl) c116 <|
 .cons (fn:=Try.f117) (by kernel_rfl) c117 <|
 .cons (fn:=Try.f118) (by kernel_rfl) c118 <|
 .cons (fn:=Try.f119) (by kernel_rfl) c119 <|
 .cons (fn:=Try.f120) (by kernel_rfl) c120 <|
 .cons (fn:=Try.f123) (by kernel_rfl) c123 <|
 .cons (fn:=Try.f124) (by kernel_rfl) c124 <|
 .cons (fn:=Try.f125) (by kernel_rfl) c125 <|
 .cons (fn:=Try.f126) (by kernel_rfl) c126 <|
 .cons (fn:=Try.f127) (by kernel_rfl) c127 <|
 .cons (fn:=Try.f128) (by kernel_rfl) c128 <|
 .cons (fn:=Try.f129) (by kernel_rfl) c129 <|
 .cons (fn:=Try.f131) (by kernel_rfl) c131 <|
 .nil
def cl82:CloneText Try.prog Try.f82 88 3 40 (.agg [(.int .i64 0),(.int .i64 0),.nsl]) :=
 ⟨_,_,_,_,_,_,_,_,_,28,28,88,rfl,by kernel_rfl,by kernel_rfl,rfl,rfl,rfl,by kernel_rfl,by kernel_rfl,by kernel_rfl,rfl,rfl⟩
def cl62:CloneText Try.prog Try.f62 53 7 72 (.agg [(.int .i64 0),(.int .i64 0),(.int .i64 0),(.int .i64 0),.nsl,(.int .i64 0),(.bool false)]) :=
 ⟨_,_,_,_,_,_,_,_,_,27,27,53,rfl,by kernel_rfl,by kernel_rfl,rfl,rfl,rfl,by kernel_rfl,by kernel_rfl,by kernel_rfl,rfl,rfl⟩
def cl81:CloneText Try.prog Try.f81 35 2 16 (.agg [(.int .i64 0),(.int .i64 0)]) :=
 ⟨_,_,_,_,_,_,_,_,_,26,26,35,rfl,by kernel_rfl,by kernel_rfl,rfl,rfl,rfl,by kernel_rfl,by kernel_rfl,by kernel_rfl,rfl,rfl⟩
def cl80:CloneText Try.prog Try.f80 41 4 48 (.agg [(.int .i64 0),(.int .i64 0),.nsl,(.int .i64 0)]) :=
 ⟨_,_,_,_,_,_,_,_,_,25,25,41,rfl,by kernel_rfl,by kernel_rfl,rfl,rfl,rfl,by kernel_rfl,by kernel_rfl,by kernel_rfl,rfl,rfl⟩
def cl27:CloneText Try.prog Try.f27 3 1 8 (.int .i64 0) :=
 ⟨_,_,_,_,_,_,_,_,_,22,22,3,rfl,by kernel_rfl,by kernel_rfl,rfl,rfl,rfl,by kernel_rfl,by kernel_rfl,by kernel_rfl,rfl,rfl⟩
def hooks:List (Nat×Hook):=[(88,overlapsHook),(86,overlapsHook),(82,cloneHook 88 3 40),(62,cloneHook 53 7 72),(81,cloneHook 35 2 16),(80,cloneHook 41 4 48),(27,cloneHook 3 1 8)]
theorem hooks_ok:HooksOk Try.prog hooks :=
 .cons (overlaps_ok (fn:=Try.f88) (tS:=26) (tR:=4) (e:=35) (by kernel_rfl) (by kernel_rfl) (by kernel_rfl) (by kernel_rfl) (by kernel_rfl) (by kernel_rfl) (by kernel_rfl)) <|
 .cons (overlaps_ok (fn:=Try.f86) (tS:=25) (tR:=4) (e:=41) (by kernel_rfl) (by kernel_rfl) (by kernel_rfl) (by kernel_rfl) (by kernel_rfl) (by kernel_rfl) (by kernel_rfl)) <|
 .cons (clone_ok (fn:=Try.f82) (by kernel_rfl) (by kernel_rfl) (by kernel_rfl) cl82) <|
 .cons (clone_ok (fn:=Try.f62) (by kernel_rfl) (by kernel_rfl) (by kernel_rfl) cl62) <|
 .cons (clone_ok (fn:=Try.f81) (by kernel_rfl) (by kernel_rfl) (by kernel_rfl) cl81) <|
 .cons (clone_ok (fn:=Try.f80) (by kernel_rfl) (by kernel_rfl) (by kernel_rfl) cl80) <|
 .cons (clone_ok (fn:=Try.f27) (by kernel_rfl) (by kernel_rfl) (by kernel_rfl) cl27) <|
 .nil
def D:DProg:=hookedD tab hooks
theorem good:Good Try.prog D:=hookedD_good (by kernel_rfl) tab_ok hooks_ok
end Go.Dm.Tc
