/-
The table of functions (Tc). Written by program (wip/tools/table.lean.txt).
-/
import Derived.Test.YtfnhanajiibciaaGreatTc0
import Derived.Test.YtfnhanajiibciaaGreatTc1
import Derived.Test.YtfnhanajiibciaaGreatTc2
namespace Go.Dm.Tc
open Go.Proofs
def tab:List (Nat×DFunc):=[(10,t10),(15,t15),(16,t16),(18,t18),(19,t19),(23,t23),(31,t31),(32,t32),(34,t34),(35,t35),(40,t40),(41,t41),(47,t47),(50,t50),(51,t51),(52,t52),(54,t54),(55,t55),(56,t56),(65,t65),(66,t66),(67,t67),(68,t68),(69,t69),(70,t70),(71,t71),(72,t72),(73,t73),(74,t74),(100,t100),(101,t101),(106,t106),(113,t113),(114,t114),(116,t116),(117,t117),(120,t120),(123,t123),(124,t124),(125,t125),(127,t127),(128,t128),(129,t129),(130,t130),(134,t134),(135,t135),(136,t136),(139,t139),(140,t140),(141,t141),(143,t143),(145,t145),(146,t146),(148,t148),(151,t151),(154,t154),(155,t155),(157,t157),(160,t160),(161,t161),(162,t162),(163,t163),(165,t165),(166,t166),(167,t167),(168,t168),(170,t170),(171,t171),(172,t172),(173,t173),(174,t174),(175,t175),(176,t176),(177,t177),(178,t178),(179,t179),(180,t180),(181,t181),(182,t182),(183,t183),(185,t185),(187,t187),(190,t190),(191,t191),(192,t192),(193,t193),(194,t194),(195,t195),(196,t196),(197,t197),(198,t198),(199,t199),(200,t200),(201,t201),(202,t202),(203,t203),(204,t204),(205,t205),(207,t207),(208,t208),(210,t210),(211,t211),(212,t212),(214,t214),(215,t215)]
set_option maxRecDepth 100000 in
theorem tab_ok:TabOk Tryz.prog tab :=
 .cons (fn:=Tryz.f10) (by kernel_rfl) c10 <|
 .cons (fn:=Tryz.f15) (by kernel_rfl) c15 <|
 .cons (fn:=Tryz.f16) (by kernel_rfl) c16 <|
 .cons (fn:=Tryz.f18) (by kernel_rfl) c18 <|
 .cons (fn:=Tryz.f19) (by kernel_rfl) c19 <|
 .cons (fn:=Tryz.f23) (by kernel_rfl) c23 <|
 .cons (fn:=Tryz.f31) (by kernel_rfl) c31 <|
 .cons (fn:=Tryz.f32) (by kernel_rfl) c32 <|
 .cons (fn:=Tryz.f34) (by kernel_rfl) c34 <|
 .cons (fn:=Tryz.f35) (by kernel_rfl) c35 <|
 .cons (fn:=Tryz.f40) (by kernel_rfl) c40 <|
 .cons (fn:=Tryz.f41) (by kernel_rfl) c41 <|
 .cons (fn:=Tryz.f47) (by kernel_rfl) c47 <|
 .cons (fn:=Tryz.f50) (by kernel_rfl) c50 <|
 .cons (fn:=Tryz.f51) (by kernel_rfl) c51 <|
 .cons (fn:=Tryz.f52) (by kernel_rfl) c52 <|
 .cons (fn:=Tryz.f54) (by kernel_rfl) c54 <|
 .cons (fn:=Tryz.f55) (by kernel_rfl) c55 <|
 .cons (fn:=Tryz.f56) (by kernel_rfl) c56 <|
 .cons (fn:=Tryz.f65) (by kernel_rfl) c65 <|
 .cons (fn:=Tryz.f66) (by kernel_rfl) c66 <|
 .cons (fn:=Tryz.f67) (by kernel_rfl) c67 <|
 .cons (fn:=Tryz.f68) (by kernel_rfl) c68 <|
 .cons (fn:=Tryz.f69) (by kernel_rfl) c69 <|
 .cons (fn:=Tryz.f70) (by kernel_rfl) c70 <|
 .cons (fn:=Tryz.f71) (by kernel_rfl) c71 <|
 .cons (fn:=Tryz.f72) (by kernel_rfl) c72 <|
 .cons (fn:=Tryz.f73) (by kernel_rfl) c73 <|
 .cons (fn:=Tryz.f74) (by kernel_rfl) c74 <|
 .cons (fn:=Tryz.f100) (by kernel_rfl) c100 <|
 .cons (fn:=Tryz.f101) (by kernel_rfl) c101 <|
 .cons (fn:=Tryz.f106) (by kernel_rfl) c106 <|
 .cons (fn:=Tryz.f113) (by kernel_rfl) c113 <|
 .cons (fn:=Tryz.f114) (by kernel_rfl) c114 <|
 .cons (fn:=Tryz.f116) (by kernel_rfl) c116 <|
 .cons (fn:=Tryz.f117) (by kernel_rfl) c117 <|
 .cons (fn:=Tryz.f120) (by kernel_rfl) c120 <|
 .cons (fn:=Tryz.f123) (by kernel_rfl) c123 <|
 .cons (fn:=Tryz.f124) (by kernel_rfl) c124 <|
 .cons (fn:=Tryz.f125) (by kernel_rfl) c125 <|
 .cons (fn:=Tryz.f127) (by kernel_rfl) c127 <|
 .cons (fn:=Tryz.f128) (by kernel_rfl) c128 <|
 .cons (fn:=Tryz.f129) (by kernel_rfl) c129 <|
 .cons (fn:=Tryz.f130) (by kernel_rfl) c130 <|
 .cons (fn:=Tryz.f134) (by kernel_rfl) c134 <|
 .cons (fn:=Tryz.f135) (by kernel_rfl) c135 <|
 .cons (fn:=Tryz.f136) (by kernel_rfl) c136 <|
 .cons (fn:=Tryz.f139) (by kernel_rfl) c139 <|
 .cons (fn:=Tryz.f140) (by kernel_rfl) c140 <|
 .cons (fn:=Tryz.f141) (by kernel_rfl) c141 <|
 .cons (fn:=Tryz.f143) (by kernel_rfl) c143 <|
 .cons (fn:=Tryz.f145) (by kernel_rfl) c145 <|
 .cons (fn:=Tryz.f146) (by kernel_rfl) c146 <|
 .cons (fn:=Tryz.f148) (by kernel_rfl) c148 <|
 .cons (fn:=Tryz.f151) (by kernel_rfl) c151 <|
 .cons (fn:=Tryz.f154) (by kernel_rfl) c154 <|
 .cons (fn:=Tryz.f155) (by kernel_rfl) c155 <|
 .cons (fn:=Tryz.f157) (by kernel_rfl) c157 <|
 .cons (fn:=Tryz.f160) (by kernel_rfl) c160 <|
 .cons (fn:=Tryz.f161) (by kernel_rfl) c161 <|
 .cons (fn:=Tryz.f162) (by kernel_rfl) c162 <|
 .cons (fn:=Tryz.f163) (by kernel_rfl) c163 <|
 .cons (fn:=Tryz.f165) (by kernel_rfl) c165 <|
 .cons (fn:=Tryz.f166) (by kernel_rfl) c166 <|
 .cons (fn:=Tryz.f167) (by kernel_rfl) c167 <|
 .cons (fn:=Tryz.f168) (by kernel_rfl) c168 <|
 .cons (fn:=Tryz.f170) (by kernel_rfl) c170 <|
 .cons (fn:=Tryz.f171) (by kernel_rfl) c171 <|
 .cons (fn:=Tryz.f172) (by kernel_rfl) c172 <|
 .cons (fn:=Tryz.f173) (by kernel_rfl) c173 <|
 .cons (fn:=Tryz.f174) (by kernel_rfl) c174 <|
 .cons (fn:=Tryz.f175) (by kernel_rfl) c175 <|
 .cons (fn:=Tryz.f176) (by kernel_rfl) c176 <|
 .cons (fn:=Tryz.f177) (by kernel_rfl) c177 <|
 .cons (fn:=Tryz.f178) (by kernel_rfl) c178 <|
 .cons (fn:=Tryz.f179) (by kernel_rfl) c179 <|
 .cons (fn:=Tryz.f180) (by kernel_rfl) c180 <|
 .cons (fn:=Tryz.f181) (by kernel_rfl) c181 <|
 .cons (fn:=Tryz.f182) (by kernel_rfl) c182 <|
 .cons (fn:=Tryz.f183) (by kernel_rfl) c183 <|
 .cons (fn:=Tryz.f185) (by kernel_rfl) c185 <|
 .cons (fn:=Tryz.f187) (by kernel_rfl) c187 <|
 .cons (fn:=Tryz.f190) (by kernel_rfl) c190 <|
 .cons (fn:=Tryz.f191) (by kernel_rfl) c191 <|
 .cons (fn:=Tryz.f192) (by kernel_rfl) c192 <|
 .cons (fn:=Tryz.f193) (by kernel_rfl) c193 <|
 .cons (fn:=Tryz.f194) (by kernel_rfl) c194 <|
 .cons (fn:=Tryz.f195) (by kernel_rfl) c195 <|
 .cons (fn:=Tryz.f196) (by kernel_rfl) c196 <|
 .cons (fn:=Tryz.f197) (by kernel_rfl) c197 <|
 .cons (fn:=Tryz.f198) (by kernel_rfl) c198 <|
 .cons (fn:=Tryz.f199) (by kernel_rfl) c199 <|
 .cons (fn:=Tryz.f200) (by kernel_rfl) c200 <|
 .cons (fn:=Tryz.f201) (by kernel_rfl) c201 <|
 .cons (fn:=Tryz.f202) (by kernel_rfl) c202 <|
 .cons (fn:=Tryz.f203) (by kernel_rfl) c203 <|
 .cons (fn:=Tryz.f204) (by kernel_rfl) c204 <|
 .cons (fn:=Tryz.f205) (by kernel_rfl) c205 <|
 .cons (fn:=Tryz.f207) (by kernel_rfl) c207 <|
 .cons (fn:=Tryz.f208) (by kernel_rfl) c208 <|
 .cons (fn:=Tryz.f210) (by kernel_rfl) c210 <|
 .cons (fn:=Tryz.f211) (by kernel_rfl) c211 <|
 .cons (fn:=Tryz.f212) (by kernel_rfl) c212 <|
 .cons (fn:=Tryz.f214) (by kernel_rfl) c214 <|
 .cons (fn:=Tryz.f215) (by kernel_rfl) c215 <|
 .nil
def cl112:CloneText Tryz.prog Tryz.f112 58 7 72 (.agg [(.int .i64 0),(.int .i64 0),(.int .i64 0),(.int .i64 0),.nsl,(.int .i64 0),(.bool false)]) :=
 ⟨_,_,_,_,_,_,_,_,_,26,26,58,rfl,by kernel_rfl,by kernel_rfl,rfl,rfl,rfl,by kernel_rfl,by kernel_rfl,by kernel_rfl,rfl,rfl⟩
def cl138:CloneText Tryz.prog Tryz.f138 37 2 16 (.agg [(.int .i64 0),(.int .i64 0)]) :=
 ⟨_,_,_,_,_,_,_,_,_,25,25,37,rfl,by kernel_rfl,by kernel_rfl,rfl,rfl,rfl,by kernel_rfl,by kernel_rfl,by kernel_rfl,rfl,rfl⟩
def cl137:CloneText Tryz.prog Tryz.f137 42 4 48 (.agg [(.int .i64 0),(.int .i64 0),.nsl,(.int .i64 0)]) :=
 ⟨_,_,_,_,_,_,_,_,_,24,24,42,rfl,by kernel_rfl,by kernel_rfl,rfl,rfl,rfl,by kernel_rfl,by kernel_rfl,by kernel_rfl,rfl,rfl⟩
def cl126:CloneText Tryz.prog Tryz.f126 60 3 40 (.agg [(.int .i64 0),(.int .i64 0),.nsl]) :=
 ⟨_,_,_,_,_,_,_,_,_,27,27,60,rfl,by kernel_rfl,by kernel_rfl,rfl,rfl,rfl,by kernel_rfl,by kernel_rfl,by kernel_rfl,rfl,rfl⟩
def cl64:CloneText Tryz.prog Tryz.f64 3 1 8 (.int .i64 0) :=
 ⟨_,_,_,_,_,_,_,_,_,23,23,3,rfl,by kernel_rfl,by kernel_rfl,rfl,rfl,rfl,by kernel_rfl,by kernel_rfl,by kernel_rfl,rfl,rfl⟩
def hooks:List (Nat×Hook):=[(209,overlapsHook),(156,overlapsHook),(164,overlapsHook),(144,overlapsHook),(142,overlapsHook),(213,compareHook),(112,cloneHook 58 7 72),(138,cloneHook 37 2 16),(137,cloneHook 42 4 48),(126,cloneHook 60 3 40),(64,cloneHook 3 1 8)]
theorem hooks_ok:HooksOk Tryz.prog hooks :=
 .cons (overlaps_ok (fn:=Tryz.f209) (tS:=39) (tR:=4) (e:=62) (by kernel_rfl) (by kernel_rfl) (by kernel_rfl) (by kernel_rfl) (by kernel_rfl) (by kernel_rfl) (by kernel_rfl)) <|
 .cons (overlaps_ok (fn:=Tryz.f156) (tS:=26) (tR:=4) (e:=58) (by kernel_rfl) (by kernel_rfl) (by kernel_rfl) (by kernel_rfl) (by kernel_rfl) (by kernel_rfl) (by kernel_rfl)) <|
 .cons (overlaps_ok (fn:=Tryz.f164) (tS:=27) (tR:=4) (e:=60) (by kernel_rfl) (by kernel_rfl) (by kernel_rfl) (by kernel_rfl) (by kernel_rfl) (by kernel_rfl) (by kernel_rfl)) <|
 .cons (overlaps_ok (fn:=Tryz.f144) (tS:=25) (tR:=4) (e:=37) (by kernel_rfl) (by kernel_rfl) (by kernel_rfl) (by kernel_rfl) (by kernel_rfl) (by kernel_rfl) (by kernel_rfl)) <|
 .cons (overlaps_ok (fn:=Tryz.f142) (tS:=24) (tR:=4) (e:=42) (by kernel_rfl) (by kernel_rfl) (by kernel_rfl) (by kernel_rfl) (by kernel_rfl) (by kernel_rfl) (by kernel_rfl)) <|
 .cons (compare_ok (fn:=Tryz.f213) (by kernel_rfl) (by kernel_rfl) (by kernel_rfl) (by kernel_rfl) (by kernel_rfl)) <|
 .cons (clone_ok (fn:=Tryz.f112) (by kernel_rfl) (by kernel_rfl) (by kernel_rfl) cl112) <|
 .cons (clone_ok (fn:=Tryz.f138) (by kernel_rfl) (by kernel_rfl) (by kernel_rfl) cl138) <|
 .cons (clone_ok (fn:=Tryz.f137) (by kernel_rfl) (by kernel_rfl) (by kernel_rfl) cl137) <|
 .cons (clone_ok (fn:=Tryz.f126) (by kernel_rfl) (by kernel_rfl) (by kernel_rfl) cl126) <|
 .cons (clone_ok (fn:=Tryz.f64) (by kernel_rfl) (by kernel_rfl) (by kernel_rfl) cl64) <|
 .nil
def D:DProg:=hookedD tab hooks
theorem good:Good Tryz.prog D:=hookedD_good (by kernel_rfl) tab_ok hooks_ok
end Go.Dm.Tc
