/-
The table of functions (Tc). Written by program (wip/tools/table.lean.txt).
-/
import Derived.Test.YtfnhanajiibciaaGreatTc0
import Derived.Test.YtfnhanajiibciaaGreatTc1
import Derived.Test.YtfnhanajiibciaaGreatTc2
import Derived.Test.YtfnhanajiibciaaGreatTc3
import Derived.Test.YtfnhanajiibciaaGreatTc4
namespace Go.Dm.Tc
open Go.Proofs
def tab:List (Nat×DFunc):=[(14,t14),(15,t15),(16,t16),(17,t17),(18,t18),(19,t19),(20,t20),(22,t22),(23,t23),(24,t24),(25,t25),(27,t27),(29,t29),(30,t30),(31,t31),(34,t34),(35,t35),(36,t36),(37,t37),(38,t38),(39,t39),(40,t40),(41,t41),(46,t46),(47,t47),(48,t48),(50,t50),(51,t51),(52,t52),(53,t53),(54,t54),(55,t55),(56,t56),(57,t57),(58,t58),(59,t59),(60,t60),(61,t61),(62,t62),(63,t63),(65,t65),(66,t66),(67,t67),(68,t68),(69,t69),(70,t70),(71,t71),(72,t72),(73,t73),(74,t74),(75,t75),(76,t76),(80,t80),(81,t81),(91,t91),(92,t92),(93,t93),(94,t94),(95,t95),(96,t96),(97,t97),(98,t98),(99,t99),(100,t100),(101,t101),(102,t102),(103,t103),(104,t104),(105,t105),(106,t106),(107,t107),(108,t108),(109,t109),(110,t110),(111,t111),(113,t113),(114,t114),(116,t116),(117,t117),(118,t118),(119,t119),(120,t120),(121,t121),(122,t122),(123,t123),(124,t124),(125,t125),(127,t127),(128,t128),(129,t129),(130,t130),(131,t131),(132,t132),(133,t133),(134,t134),(135,t135),(136,t136),(139,t139),(140,t140),(141,t141),(143,t143),(145,t145),(146,t146),(148,t148),(149,t149),(150,t150),(151,t151),(152,t152),(153,t153),(154,t154),(155,t155),(157,t157),(158,t158),(159,t159),(160,t160),(161,t161),(162,t162),(163,t163),(165,t165),(166,t166),(167,t167),(168,t168),(169,t169),(170,t170),(171,t171),(172,t172),(173,t173),(174,t174),(175,t175),(176,t176),(177,t177),(178,t178),(179,t179),(180,t180),(181,t181),(182,t182),(183,t183),(184,t184),(185,t185),(186,t186),(187,t187),(188,t188),(189,t189),(190,t190),(191,t191),(192,t192),(193,t193),(194,t194),(195,t195),(196,t196),(197,t197),(198,t198),(199,t199),(200,t200),(201,t201),(202,t202),(203,t203),(204,t204),(205,t205),(206,t206),(207,t207),(208,t208),(210,t210),(211,t211),(212,t212),(214,t214),(215,t215)]
set_option maxRecDepth 100000 in
theorem tab_ok:TabOk Tryz.prog tab :=
 .cons (fn:=Tryz.f14) (by kernel_rfl) c14 <|
 .cons (fn:=Tryz.f15) (by kernel_rfl) c15 <|
 .cons (fn:=Tryz.f16) (by kernel_rfl) c16 <|
 .cons (fn:=Tryz.f17) (by kernel_rfl) c17 <|
 .cons (fn:=Tryz.f18) (by kernel_rfl) c18 <|
 .cons (fn:=Tryz.f19) (by kernel_rfl) c19 <|
 .cons (fn:=Tryz.f20) (by kernel_rfl) c20 <|
 .cons (fn:=Tryz.f22) (by kernel_rfl) c22 <|
 .cons (fn:=Tryz.f23) (by kernel_rfl) c23 <|
 .cons (fn:=Tryz.f24) (by kernel_rfl) c24 <|
 .cons (fn:=Tryz.f25) (by kernel_rfl) c25 <|
 .cons (fn:=Tryz.f27) (by kernel_rfl) c27 <|
 .cons (fn:=Tryz.f29) (by kernel_rfl) c29 <|
 .cons (fn:=Tryz.f30) (by kernel_rfl) c30 <|
 .cons (fn:=Tryz.f31) (by kernel_rfl) c31 <|
 .cons (fn:=Tryz.f34) (by kernel_rfl) c34 <|
 .cons (fn:=Tryz.f35) (by kernel_rfl) c35 <|
 .cons (fn:=Tryz.f36) (by kernel_rfl) c36 <|
 .cons (fn:=Tryz.f37) (by kernel_rfl) c37 <|
 .cons (fn:=Tryz.f38) (by kernel_rfl) c38 <|
 .cons (fn:=Tryz.f39) (by kernel_rfl) c39 <|
 .cons (fn:=Tryz.f40) (by kernel_rfl) c40 <|
 .cons (fn:=Tryz.f41) (by kernel_rfl) c41 <|
 .cons (fn:=Tryz.f46) (by kernel_rfl) c46 <|
 .cons (fn:=Tryz.f47) (by kernel_rfl) c47 <|
 .cons (fn:=Tryz.f48) (by kernel_rfl) c48 <|
 .cons (fn:=Tryz.f50) (by kernel_rfl) c50 <|
 .cons (fn:=Tryz.f51) (by kernel_rfl) c51 <|
 .cons (fn:=Tryz.f52) (by kernel_rfl) c52 <|
 .cons (fn:=Tryz.f53) (by kernel_rfl) c53 <|
 .cons (fn:=Tryz.f54) (by kernel_rfl) c54 <|
 .cons (fn:=Tryz.f55) (by kernel_rfl) c55 <|
 .cons (fn:=Tryz.f56) (by kernel_rfl) c56 <|
 .cons (fn:=Tryz.f57) (by kernel_rfl) c57 <|
 .cons (fn:=Tryz.f58) (by kernel_rfl) c58 <|
 .cons (fn:=Tryz.f59) (by kernel_rfl) c59 <|
 .cons (fn:=Tryz.f60) (by kernel_rfl) c60 <|
 .cons (fn:=Tryz.f61) (by kernel_rfl) c61 <|
 .cons (fn:=Tryz.f62) (by kernel_rfl) c62 <|
 .cons (fn:=Tryz.f63) (by kernel_rfl) c63 <|
 .cons (fn:=Tryz.f65) (by kernel_rfl) c65 <|
 .cons (fn:=Tryz.f66) (by kernel_rfl) c66 <|
 .cons (fn:=Tryz.f67) (by kernel_rfl) c67 <|
 .cons (fn:=Tryz.f68) (by kernel_rfl) c68 <|
 .cons (fn:=Tryz.f69) (by kernel_rfl) c69 <|
 .cons (fn:=Tryz.f70) (by kernel_rfl) c70 <|
 .cons (fn:=Tryz.f71) (by kernel_rfl) c71 <|
 .cons (fn:=Tryz.f72) (by kernel_rfl) c72 <|
 .cons (fn:=Tryz.f73) (by kernel_rfl) c73 <|
 .cons (fn:=Tryz.f74) (by kernel_rfl) c74 <|
 .cons (fn:=Tryz.f75) (by kernel_rfl) c75 <|
 .cons (fn:=Tryz.f76) (by kernel_rfl) c76 <|
 .cons (fn:=Tryz.f80) (by kernel_rfl) c80 <|
 .cons (fn:=Tryz.f81) (by kernel_rfl) c81 <|
 .cons (fn:=Tryz.f91) (by kernel_rfl) c91 <|
 .cons (fn:=Tryz.f92) (by kernel_rfl) c92 <|
 .cons (fn:=Tryz.f93) (by kernel_rfl) c93 <|
 .cons (fn:=Tryz.f94) (by kernel_rfl) c94 <|
 .cons (fn:=Tryz.f95) (by kernel_rfl) c95 <|
 .cons (fn:=Tryz.f96) (by kernel_rfl) c96 <|
 .cons (fn:=Tryz.f97) (by kernel_rfl) c97 <|
 .cons (fn:=Tryz.f98) (by kernel_rfl) c98 <|
 .cons (fn:=Tryz.f99) (by kernel_rfl) c99 <|
 .cons (fn:=Tryz.f100) (by kernel_rfl) c100 <|
 .cons (fn:=Tryz.f101) (by kernel_rfl) c101 <|
 .cons (fn:=Tryz.f102) (by kernel_rfl) c102 <|
 .cons (fn:=Tryz.f103) (by kernel_rfl) c103 <|
 .cons (fn:=Tryz.f104) (by kernel_rfl) c104 <|
 .cons (fn:=Tryz.f105) (by kernel_rfl) c105 <|
 .cons (fn:=Tryz.f106) (by kernel_rfl) c106 <|
 .cons (fn:=Tryz.f107) (by kernel_rfl) c107 <|
 .cons (fn:=Tryz.f108) (by kernel_rfl) c108 <|
 .cons (fn:=Tryz.f109) (by kernel_rfl) c109 <|
 .cons (fn:=Tryz.f110) (by kernel_rfl) c110 <|
 .cons (fn:=Tryz.f111) (by kernel_rfl) c111 <|
 .cons (fn:=Tryz.f113) (by kernel_rfl) c113 <|
 .cons (fn:=Tryz.f114) (by kernel_rfl) c114 <|
 .cons (fn:=Tryz.f116) (by kernel_rfl) c116 <|
 .cons (fn:=Tryz.f117) (by kernel_rfl) c117 <|
 .cons (fn:=Tryz.f118) (by kernel_rfl) c118 <|
 .cons (fn:=Tryz.f119) (by kernel_rfl) c119 <|
 .cons (fn:=Tryz.f120) (by kernel_rfl) c120 <|
 .cons (fn:=Tryz.f121) (by kernel_rfl) c121 <|
 .cons (fn:=Tryz.f122) (by kernel_rfl) c122 <|
 .cons (fn:=Tryz.f123) (by kernel_rfl) c123 <|
 .cons (fn:=Tryz.f124) (by kernel_rfl) c124 <|
 .cons (fn:=Tryz.f125) (by kernel_rfl) c125 <|
 .cons (fn:=Tryz.f127) (by kernel_rfl) c127 <|
 .cons (fn:=Tryz.f128) (by kernel_rfl) c128 <|
 .cons (fn:=Tryz.f129) (by kernel_rfl) c129 <|
 .cons (fn:=Tryz.f130) (by kernel_rfl) c130 <|
 .cons (fn:=Tryz.f131) (by kernel_rfl) c131 <|
 .cons (fn:=Tryz.f132) (by kernel_rfl) c132 <|
 .cons (fn:=Tryz.f133) (by kernel_rfl) c133 <|
 .cons (fn:=Tryz.f134) (by kernel_rfl) c134 <|
 .cons (fn:=Tryz.f135) (by kernel_rfl) c135 <|
 .cons (fn:=Tryz.f136) (by kernel_rfl) c136 <|
 .cons (fn:=Tryz.f139) (by kernel_rfl) c139 <|
 .cons (fn:=Tryz.f140) (by kernel_rfl) c140 <|
 .cons (fn:=Tryz.f141) (by kernel_rfl) c141 <|
 .cons (fn:=Tryz.f143) (by kernel_rfl) c143 <|
 .cons (fn:=Tryz.f145) (by kernel_rfl) c145 <|
 .cons (fn:=Tryz.f146) (by kernel_rfl) c146 <|
 .cons (fn:=Tryz.f148) (by kernel_rfl) c148 <|
 .cons (fn:=Tryz.f149) (by kernel_rfl) c149 <|
 .cons (fn:=Tryz.f150) (by kernel_rfl) c150 <|
 .cons (fn:=Tryz.f151) (by kernel_rfl) c151 <|
 .cons (fn:=Tryz.f152) (by kernel_rfl) c152 <|
 .cons (fn:=Tryz.f153) (by kernel_rfl) c153 <|
 .cons (fn:=Tryz.f154) (by kernel_rfl) c154 <|
 .cons (fn:=Tryz.f155) (by kernel_rfl) c155 <|
 .cons (fn:=Tryz.f157) (by kernel_rfl) c157 <|
 .cons (fn:=Tryz.f158) (by kernel_rfl) c158 <|
 .cons (fn:=Tryz.f159) (by kernel_rfl) c159 <|
 .cons (fn:=Tryz.f160) (by kernel_rfl) c160 <|
 .cons (fn:=Tryz.f161) (by kernel_rfl) c161 <|
 .cons (fn:=Tryz.f162) (by kernel_rfl) c162 <|
 .cons (fn:=Tryz.f163) (by kernel_rfl) c163 <|
 .cons (fn:=Tryz.f165) (by kernel_rfl) c165 <|
 .cons (fn:=Tryz.f166) (by kernel_rfl) c166 <|
 .cons (fn:=Tryz.f167) (by kernel_rfl) c167 <|
 .cons (fn:=Tryz.f168) (by kernel_rfl) c168 <|
 .cons (fn:=Tryz.f169) (by kernel_rfl) c169 <|
 .cons (fn:=Tryz.f170) (by kernel_rfl) c170 <|
 .cons (fn:=Tryz.f171) (by kernel_rfl) c171 <|
 .cons (fn:=Tryz.f172) (by kernel_rfl) c172 <|
 .cons (fn:=Tryz.f173) (by kernel_rfl) c173 <|
 .cons (fn:=Tryz.f174) (by kernel_rfl) c174 <|
 .cons (fn:=Tryz.f175) (by kernel_rfl) c175 <|
 .cons (fn:=Tryz.f176) (by kernel_rfl) c176 <|
 .cons (fn:=Tryz.f177) (by kernel_rfl) c177 <|
 .cons (fn:=Tryz.f178) (by kernel_rfl) c178 <|
 .cons (fn:=Tryz.f179) (by kernel_rfl) c179 <|
 .cons (fn:=Tryz.f180) (by kernel_rfl) c180 <|
 .cons (fn:=Tryz.f181) (by kernel_rfl) c181 <|
 .cons (fn:=Tryz.f182) (by kernel_rfl) c182 <|
 .cons (fn:=Tryz.f183) (by kernel_rfl) c183 <|
 .cons (fn:=Tryz.f184) (by kernel_rfl) c184 <|
 .cons (fn:=Tryz.f185) (by kernel_rfl) c185 <|
 .cons (fn:=Tryz.f186) (by kernel_rfl) c186 <|
 .cons (fn:=Tryz.f187) (by kernel_rfl) c187 <|
 .cons (fn:=Tryz.f188) (by kernel_rfl) c188 <|
 .cons (fn:=Tryz.f189) (by kernel_rfl) c189 <|
 .cons (fn:=Tryz.f190) (by kernel_rfl) c190 <|
 .cons (fn:=Tryz.f191) (by kernel_rfl) c191 <|
 .cons (fn:=Tryz.f192) (by kernel_rfl) c192 <|
 .cons (fn:=Tryz.f193) (by kernel_rfl) c193 <|
 .cons (fn:=Tryz.f194) (by kernel_rfl) c194 <|
 .cons (fn:=Tryz.f195) (by kernel_rfl) c195 <|
 .cons (fn:=Tryz.f196) (by kernel_rfl) c196 <|
 .cons (fn:=Tryz.f197) (by kernel_rfl) c197 <|
 .cons (fn:=Tryz.f198) (by kernel_rfl) c198 <|
 .cons (fn:=Tryz.f199) (by kernel_rfl) c199 <|
 .cons (fn:=Tryz.f200) (by kernel_rfl) c200 <|
 .cons (fn:=Tryz.f201) (by kernel_rfl) c201 <|
 .cons (fn:=Tryz.f202) (by kernel_rfl) c202 <|
 .cons (fn:=Tryz.f203) (by kernel_rfl) c203 <|
 .cons (fn:=Tryz.f204) (by kernel_rfl) c204 <|
 .cons (fn:=Tryz.f205) (by kernel_rfl) c205 <|
 .cons (fn:=Tryz.f206) (by kernel_rfl) c206 <|
 .cons (fn:=Tryz.f207) (by kernel_rfl) c207 <|
 .cons (fn:=Tryz.f208) (by kernel_rfl) c208 <|
 .cons (fn:=Tryz.f210) (by kernel_rfl) c210 <|
 .cons (fn:=Tryz.f211) (by kernel_rfl) c211 <|
 .cons (fn:=Tryz.f212) (by kernel_rfl) c212 <|
 .cons (fn:=Tryz.f214) (by kernel_rfl) c214 <|
 .cons (fn:=Tryz.f215) (by kernel_rfl) c215 <|
 .nil
def cl138:CloneText Tryz.prog Tryz.f138 37 2 16 (.agg [(.int .i64 0),(.int .i64 0)]) :=
 ⟨_,_,_,_,_,_,_,_,_,25,25,37,rfl,by kernel_rfl,by kernel_rfl,rfl,rfl,rfl,by kernel_rfl,by kernel_rfl,by kernel_rfl,rfl,rfl⟩
def cl137:CloneText Tryz.prog Tryz.f137 42 4 48 (.agg [(.int .i64 0),(.int .i64 0),.nsl,(.int .i64 0)]) :=
 ⟨_,_,_,_,_,_,_,_,_,24,24,42,rfl,by kernel_rfl,by kernel_rfl,rfl,rfl,rfl,by kernel_rfl,by kernel_rfl,by kernel_rfl,rfl,rfl⟩
def cl112:CloneText Tryz.prog Tryz.f112 58 7 72 (.agg [(.int .i64 0),(.int .i64 0),(.int .i64 0),(.int .i64 0),.nsl,(.int .i64 0),(.bool false)]) :=
 ⟨_,_,_,_,_,_,_,_,_,26,26,58,rfl,by kernel_rfl,by kernel_rfl,rfl,rfl,rfl,by kernel_rfl,by kernel_rfl,by kernel_rfl,rfl,rfl⟩
def cl64:CloneText Tryz.prog Tryz.f64 3 1 8 (.int .i64 0) :=
 ⟨_,_,_,_,_,_,_,_,_,23,23,3,rfl,by kernel_rfl,by kernel_rfl,rfl,rfl,rfl,by kernel_rfl,by kernel_rfl,by kernel_rfl,rfl,rfl⟩
def cl126:CloneText Tryz.prog Tryz.f126 60 3 40 (.agg [(.int .i64 0),(.int .i64 0),.nsl]) :=
 ⟨_,_,_,_,_,_,_,_,_,27,27,60,rfl,by kernel_rfl,by kernel_rfl,rfl,rfl,rfl,by kernel_rfl,by kernel_rfl,by kernel_rfl,rfl,rfl⟩
def hooks:List (Nat×Hook):=[(209,overlapsHook),(156,overlapsHook),(144,overlapsHook),(142,overlapsHook),(164,overlapsHook),(213,compareHook),(138,cloneHook 37 2 16),(137,cloneHook 42 4 48),(112,cloneHook 58 7 72),(64,cloneHook 3 1 8),(126,cloneHook 60 3 40)]
theorem hooks_ok:HooksOk Tryz.prog hooks :=
 .cons (overlaps_ok (fn:=Tryz.f209) (tS:=39) (tR:=4) (e:=62) (by kernel_rfl) (by kernel_rfl) (by kernel_rfl) (by kernel_rfl) (by kernel_rfl) (by kernel_rfl) (by kernel_rfl)) <|
 .cons (overlaps_ok (fn:=Tryz.f156) (tS:=26) (tR:=4) (e:=58) (by kernel_rfl) (by kernel_rfl) (by kernel_rfl) (by kernel_rfl) (by kernel_rfl) (by kernel_rfl) (by kernel_rfl)) <|
 .cons (overlaps_ok (fn:=Tryz.f144) (tS:=25) (tR:=4) (e:=37) (by kernel_rfl) (by kernel_rfl) (by kernel_rfl) (by kernel_rfl) (by kernel_rfl) (by kernel_rfl) (by kernel_rfl)) <|
 .cons (overlaps_ok (fn:=Tryz.f142) (tS:=24) (tR:=4) (e:=42) (by kernel_rfl) (by kernel_rfl) (by kernel_rfl) (by kernel_rfl) (by kernel_rfl) (by kernel_rfl) (by kernel_rfl)) <|
 .cons (overlaps_ok (fn:=Tryz.f164) (tS:=27) (tR:=4) (e:=60) (by kernel_rfl) (by kernel_rfl) (by kernel_rfl) (by kernel_rfl) (by kernel_rfl) (by kernel_rfl) (by kernel_rfl)) <|
 .cons (compare_ok (fn:=Tryz.f213) (by kernel_rfl) (by kernel_rfl) (by kernel_rfl) (by kernel_rfl) (by kernel_rfl)) <|
 .cons (clone_ok (fn:=Tryz.f138) (by kernel_rfl) (by kernel_rfl) (by kernel_rfl) cl138) <|
 .cons (clone_ok (fn:=Tryz.f137) (by kernel_rfl) (by kernel_rfl) (by kernel_rfl) cl137) <|
 .cons (clone_ok (fn:=Tryz.f112) (by kernel_rfl) (by kernel_rfl) (by kernel_rfl) cl112) <|
 .cons (clone_ok (fn:=Tryz.f64) (by kernel_rfl) (by kernel_rfl) (by kernel_rfl) cl64) <|
 .cons (clone_ok (fn:=Tryz.f126) (by kernel_rfl) (by kernel_rfl) (by kernel_rfl) cl126) <|
 .nil
def D:DProg:=hookedD tab hooks
theorem good:Good Tryz.prog D:=hookedD_good (by kernel_rfl) tab_ok hooks_ok
end Go.Dm.Tc
