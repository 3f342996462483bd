/-
The table of functions (Tc). Written by program (wip/tools/table.lean.txt).
-/
import Derived.Test.YtfnhanajiibciaaGreatTc0
import Derived.Test.YtfnhanajiibciaaGreatTc1
import Derived.Test.YtfnhanajiibciaaGreatTc2
import Derived.Test.YtfnhanajiibciaaGreatTc3
namespace Go.Dm.Tc
open Go.Proofs
def tab:List (Nat×DFunc):=[(4,t4),(15,t15),(16,t16),(17,t17),(18,t18),(19,t19),(20,t20),(21,t21),(22,t22),(23,t23),(24,t24),(26,t26),(27,t27),(28,t28),(29,t29),(30,t30),(36,t36),(37,t37),(38,t38),(46,t46),(56,t56),(57,t57),(58,t58),(59,t59),(61,t61),(62,t62),(63,t63),(65,t65),(66,t66),(67,t67),(68,t68),(69,t69),(70,t70),(71,t71),(72,t72),(73,t73),(74,t74),(75,t75),(76,t76),(77,t77),(78,t78),(79,t79),(80,t80),(82,t82),(83,t83),(84,t84),(85,t85),(86,t86),(87,t87),(88,t88),(89,t89),(90,t90),(91,t91),(92,t92),(93,t93),(94,t94),(95,t95),(96,t96),(97,t97),(98,t98),(99,t99),(100,t100),(101,t101),(102,t102),(103,t103),(104,t104),(105,t105),(106,t106),(107,t107),(108,t108),(109,t109),(110,t110),(111,t111),(118,t118),(119,t119),(121,t121),(122,t122),(131,t131),(133,t133),(134,t134),(135,t135),(136,t136),(139,t139),(140,t140),(141,t141),(143,t143),(145,t145),(146,t146),(147,t147),(148,t148),(149,t149),(150,t150),(151,t151),(152,t152),(153,t153),(158,t158),(159,t159),(170,t170),(171,t171),(172,t172),(173,t173),(174,t174),(175,t175),(176,t176),(177,t177),(178,t178),(179,t179),(180,t180),(181,t181),(182,t182),(183,t183),(184,t184),(185,t185),(186,t186),(188,t188),(189,t189),(199,t199),(200,t200),(201,t201),(202,t202),(203,t203),(204,t204),(205,t205),(206,t206),(212,t212)]
set_option maxRecDepth 100000 in
theorem tab_ok:TabOk Tryz.prog tab :=
 .cons (fn:=Tryz.f4) (by kernel_rfl) c4 <|
 .cons (fn:=Tryz.f15) (by kernel_rfl) c15 <|
 .cons (fn:=Tryz.f16) (by kernel_rfl) c16 <|
 .cons (fn:=Tryz.f17) (by kernel_rfl) c17 <|
 .cons (fn:=Tryz.f18) (by kernel_rfl) c18 <|
 .cons (fn:=Tryz.f19) (by kernel_rfl) c19 <|
 .cons (fn:=Tryz.f20) (by kernel_rfl) c20 <|
 .cons (fn:=Tryz.f21) (by kernel_rfl) c21 <|
 .cons (fn:=Tryz.f22) (by kernel_rfl) c22 <|
 .cons (fn:=Tryz.f23) (by kernel_rfl) c23 <|
 .cons (fn:=Tryz.f24) (by kernel_rfl) c24 <|
 .cons (fn:=Tryz.f26) (by kernel_rfl) c26 <|
 .cons (fn:=Tryz.f27) (by kernel_rfl) c27 <|
 .cons (fn:=Tryz.f28) (by kernel_rfl) c28 <|
 .cons (fn:=Tryz.f29) (by kernel_rfl) c29 <|
 .cons (fn:=Tryz.f30) (by kernel_rfl) c30 <|
 .cons (fn:=Tryz.f36) (by kernel_rfl) c36 <|
 .cons (fn:=Tryz.f37) (by kernel_rfl) c37 <|
 .cons (fn:=Tryz.f38) (by kernel_rfl) c38 <|
 .cons (fn:=Tryz.f46) (by kernel_rfl) c46 <|
 .cons (fn:=Tryz.f56) (by kernel_rfl) c56 <|
 .cons (fn:=Tryz.f57) (by kernel_rfl) c57 <|
 .cons (fn:=Tryz.f58) (by kernel_rfl) c58 <|
 .cons (fn:=Tryz.f59) (by kernel_rfl) c59 <|
 .cons (fn:=Tryz.f61) (by kernel_rfl) c61 <|
 .cons (fn:=Tryz.f62) (by kernel_rfl) c62 <|
 .cons (fn:=Tryz.f63) (by kernel_rfl) c63 <|
 .cons (fn:=Tryz.f65) (by kernel_rfl) c65 <|
 .cons (fn:=Tryz.f66) (by kernel_rfl) c66 <|
 .cons (fn:=Tryz.f67) (by kernel_rfl) c67 <|
 .cons (fn:=Tryz.f68) (by kernel_rfl) c68 <|
 .cons (fn:=Tryz.f69) (by kernel_rfl) c69 <|
 .cons (fn:=Tryz.f70) (by kernel_rfl) c70 <|
 .cons (fn:=Tryz.f71) (by kernel_rfl) c71 <|
 .cons (fn:=Tryz.f72) (by kernel_rfl) c72 <|
 .cons (fn:=Tryz.f73) (by kernel_rfl) c73 <|
 .cons (fn:=Tryz.f74) (by kernel_rfl) c74 <|
 .cons (fn:=Tryz.f75) (by kernel_rfl) c75 <|
 .cons (fn:=Tryz.f76) (by kernel_rfl) c76 <|
 .cons (fn:=Tryz.f77) (by kernel_rfl) c77 <|
 .cons (fn:=Tryz.f78) (by kernel_rfl) c78 <|
 .cons (fn:=Tryz.f79) (by kernel_rfl) c79 <|
 .cons (fn:=Tryz.f80) (by kernel_rfl) c80 <|
 .cons (fn:=Tryz.f82) (by kernel_rfl) c82 <|
 .cons (fn:=Tryz.f83) (by kernel_rfl) c83 <|
 .cons (fn:=Tryz.f84) (by kernel_rfl) c84 <|
 .cons (fn:=Tryz.f85) (by kernel_rfl) c85 <|
 .cons (fn:=Tryz.f86) (by kernel_rfl) c86 <|
 .cons (fn:=Tryz.f87) (by kernel_rfl) c87 <|
 .cons (fn:=Tryz.f88) (by kernel_rfl) c88 <|
 .cons (fn:=Tryz.f89) (by kernel_rfl) c89 <|
 .cons (fn:=Tryz.f90) (by kernel_rfl) c90 <|
 .cons (fn:=Tryz.f91) (by kernel_rfl) c91 <|
 .cons (fn:=Tryz.f92) (by kernel_rfl) c92 <|
 .cons (fn:=Tryz.f93) (by kernel_rfl) c93 <|
 .cons (fn:=Tryz.f94) (by kernel_rfl) c94 <|
 .cons (fn:=Tryz.f95) (by kernel_rfl) c95 <|
 .cons (fn:=Tryz.f96) (by kernel_rfl) c96 <|
 .cons (fn:=Tryz.f97) (by kernel_rfl) c97 <|
 .cons (fn:=Tryz.f98) (by kernel_rfl) c98 <|
 .cons (fn:=Tryz.f99) (by kernel_rfl) c99 <|
 .cons (fn:=Tryz.f100) (by kernel_rfl) c100 <|
 .cons (fn:=Tryz.f101) (by kernel_rfl) c101 <|
 .cons (fn:=Tryz.f102) (by kernel_rfl) c102 <|
 .cons (fn:=Tryz.f103) (by kernel_rfl) c103 <|
 .cons (fn:=Tryz.f104) (by kernel_rfl) c104 <|
 .cons (fn:=Tryz.f105) (by kernel_rfl) c105 <|
 .cons (fn:=Tryz.f106) (by kernel_rfl) c106 <|
 .cons (fn:=Tryz.f107) (by kernel_rfl) c107 <|
 .cons (fn:=Tryz.f108) (by kernel_rfl) c108 <|
 .cons (fn:=Tryz.f109) (by kernel_rfl) c109 <|
 .cons (fn:=Tryz.f110) (by kernel_rfl) c110 <|
 .cons (fn:=Tryz.f111) (by kernel_rfl) c111 <|
 .cons (fn:=Tryz.f118) (by kernel_rfl) c118 <|
 .cons (fn:=Tryz.f119) (by kernel_rfl) c119 <|
 .cons (fn:=Tryz.f121) (by kernel_rfl) c121 <|
 .cons (fn:=Tryz.f122) (by kernel_rfl) c122 <|
 .cons (fn:=Tryz.f131) (by kernel_rfl) c131 <|
 .cons (fn:=Tryz.f133) (by kernel_rfl) c133 <|
 .cons (fn:=Tryz.f134) (by kernel_rfl) c134 <|
 .cons (fn:=Tryz.f135) (by kernel_rfl) c135 <|
 .cons (fn:=Tryz.f136) (by kernel_rfl) c136 <|
 .cons (fn:=Tryz.f139) (by kernel_rfl) c139 <|
 .cons (fn:=Tryz.f140) (by kernel_rfl) c140 <|
 .cons (fn:=Tryz.f141) (by kernel_rfl) c141 <|
 .cons (fn:=Tryz.f143) (by kernel_rfl) c143 <|
 .cons (fn:=Tryz.f145) (by kernel_rfl) c145 <|
 .cons (fn:=Tryz.f146) (by kernel_rfl) c146 <|
 .cons (fn:=Tryz.f147) (by kernel_rfl) c147 <|
 .cons (fn:=Tryz.f148) (by kernel_rfl) c148 <|
 .cons (fn:=Tryz.f149) (by kernel_rfl) c149 <|
 .cons (fn:=Tryz.f150) (by kernel_rfl) c150 <|
 .cons (fn:=Tryz.f151) (by kernel_rfl) c151 <|
 .cons (fn:=Tryz.f152) (by kernel_rfl) c152 <|
 .cons (fn:=Tryz.f153) (by kernel_rfl) c153 <|
 .cons (fn:=Tryz.f158) (by kernel_rfl) c158 <|
 .cons (fn:=Tryz.f159) (by kernel_rfl) c159 <|
 .cons (fn:=Tryz.f170) (by kernel_rfl) c170 <|
 .cons (fn:=Tryz.f171) (by kernel_rfl) c171 <|
 .cons (fn:=Tryz.f172) (by kernel_rfl) c172 <|
 .cons (fn:=Tryz.f173) (by kernel_rfl) c173 <|
 .cons (fn:=Tryz.f174) (by kernel_rfl) c174 <|
 .cons (fn:=Tryz.f175) (by kernel_rfl) c175 <|
 .cons (fn:=Tryz.f176) (by kernel_rfl) c176 <|
 .cons (fn:=Tryz.f177) (by kernel_rfl) c177 <|
 .cons (fn:=Tryz.f178) (by kernel_rfl) c178 <|
 .cons (fn:=Tryz.f179) (by kernel_rfl) c179 <|
 .cons (fn:=Tryz.f180) (by kernel_rfl) c180 <|
 .cons (fn:=Tryz.f181) (by kernel_rfl) c181 <|
 .cons (fn:=Tryz.f182) (by kernel_rfl) c182 <|
 .cons (fn:=Tryz.f183) (by kernel_rfl) c183 <|
 .cons (fn:=Tryz.f184) (by kernel_rfl) c184 <|
 .cons (fn:=Tryz.f185) (by kernel_rfl) c185 <|
 .cons (fn:=Tryz.f186) (by kernel_rfl) c186 <|
 .cons (fn:=Tryz.f188) (by kernel_rfl) c188 <|
 .cons (fn:=Tryz.f189) (by kernel_rfl) c189 <|
 .cons (fn:=Tryz.f199) (by kernel_rfl) c199 <|
 .cons (fn:=Tryz.f200) (by kernel_rfl) c200 <|
 .cons (fn:=Tryz.f201) (by kernel_rfl) c201 <|
 .cons (fn:=Tryz.f202) (by kernel_rfl) c202 <|
 .cons (fn:=Tryz.f203) (by kernel_rfl) c203 <|
 .cons (fn:=Tryz.f204) (by kernel_rfl) c204 <|
 .cons (fn:=Tryz.f205) (by kernel_rfl) c205 <|
 .cons (fn:=Tryz.f206) (by kernel_rfl) c206 <|
 .cons (fn:=Tryz.f212) (by kernel_rfl) c212 <|
 .nil
def cl126:CloneText Tryz.prog Tryz.f126 60 3 40 (.agg [(.int .i64 0),(.int .i64 0),.nsl]) :=
 ⟨_,_,_,_,_,_,_,_,_,27,27,60,rfl,by kernel_rfl,by kernel_rfl,rfl,rfl,rfl,by kernel_rfl,by kernel_rfl,by kernel_rfl,rfl,rfl⟩
def cl112:CloneText Tryz.prog Tryz.f112 58 7 72 (.agg [(.int .i64 0),(.int .i64 0),(.int .i64 0),(.int .i64 0),.nsl,(.int .i64 0),(.bool false)]) :=
 ⟨_,_,_,_,_,_,_,_,_,26,26,58,rfl,by kernel_rfl,by kernel_rfl,rfl,rfl,rfl,by kernel_rfl,by kernel_rfl,by kernel_rfl,rfl,rfl⟩
def cl138:CloneText Tryz.prog Tryz.f138 37 2 16 (.agg [(.int .i64 0),(.int .i64 0)]) :=
 ⟨_,_,_,_,_,_,_,_,_,25,25,37,rfl,by kernel_rfl,by kernel_rfl,rfl,rfl,rfl,by kernel_rfl,by kernel_rfl,by kernel_rfl,rfl,rfl⟩
def cl137:CloneText Tryz.prog Tryz.f137 42 4 48 (.agg [(.int .i64 0),(.int .i64 0),.nsl,(.int .i64 0)]) :=
 ⟨_,_,_,_,_,_,_,_,_,24,24,42,rfl,by kernel_rfl,by kernel_rfl,rfl,rfl,rfl,by kernel_rfl,by kernel_rfl,by kernel_rfl,rfl,rfl⟩
def cl64:CloneText Tryz.prog Tryz.f64 3 1 8 (.int .i64 0) :=
 ⟨_,_,_,_,_,_,_,_,_,23,23,3,rfl,by kernel_rfl,by kernel_rfl,rfl,rfl,rfl,by kernel_rfl,by kernel_rfl,by kernel_rfl,rfl,rfl⟩
def hooks:List (Nat×Hook):=[(144,overlapsHook),(142,overlapsHook),(126,cloneHook 60 3 40),(112,cloneHook 58 7 72),(138,cloneHook 37 2 16),(137,cloneHook 42 4 48),(64,cloneHook 3 1 8)]
theorem hooks_ok:HooksOk Tryz.prog hooks :=
 .cons (overlaps_ok (fn:=Tryz.f144) (tS:=25) (tR:=4) (e:=37) (by kernel_rfl) (by kernel_rfl) (by kernel_rfl) (by kernel_rfl) (by kernel_rfl) (by kernel_rfl) (by kernel_rfl)) <|
 .cons (overlaps_ok (fn:=Tryz.f142) (tS:=24) (tR:=4) (e:=42) (by kernel_rfl) (by kernel_rfl) (by kernel_rfl) (by kernel_rfl) (by kernel_rfl) (by kernel_rfl) (by kernel_rfl)) <|
 .cons (clone_ok (fn:=Tryz.f126) (by kernel_rfl) (by kernel_rfl) (by kernel_rfl) cl126) <|
 .cons (clone_ok (fn:=Tryz.f112) (by kernel_rfl) (by kernel_rfl) (by kernel_rfl) cl112) <|
 .cons (clone_ok (fn:=Tryz.f138) (by kernel_rfl) (by kernel_rfl) (by kernel_rfl) cl138) <|
 .cons (clone_ok (fn:=Tryz.f137) (by kernel_rfl) (by kernel_rfl) (by kernel_rfl) cl137) <|
 .cons (clone_ok (fn:=Tryz.f64) (by kernel_rfl) (by kernel_rfl) (by kernel_rfl) cl64) <|
 .nil
def D:DProg:=hookedD tab hooks
theorem good:Good Tryz.prog D:=hookedD_good (by kernel_rfl) tab_ok hooks_ok
end Go.Dm.Tc
