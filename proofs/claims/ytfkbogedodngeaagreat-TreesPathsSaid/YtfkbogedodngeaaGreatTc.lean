/- A part of the proof. -/
import Derived.Test.YtfkbogedodngeaaGreatTc0
import Derived.Test.YtfkbogedodngeaaGreatTc1
import Derived.Test.YtfkbogedodngeaaGreatTc2
import Derived.Test.YtfkbogedodngeaaGreatTc3
import Derived.Test.YtfkbogedodngeaaGreatSorts
namespace Go.Dm.Tc
open Go.Proofs
def tab:List (Nat×aK):=[(5,t5),(6,t6),(7,t7),(8,t8),(12,t12),(13,t13),(14,t14),(15,t15),(17,t17),(18,t18),(19,t19),(20,t20),(22,t22),(23,t23),(24,t24),(25,t25),(26,t26),(27,t27),(28,t28),(29,t29),(30,t30),(31,t31),(32,t32),(33,t33),(34,t34),(35,t35),(38,t38),(41,t41),(45,t45),(46,t46),(48,t48),(49,t49),(50,t50),(51,t51),(52,t52),(53,t53),(54,t54),(55,t55),(56,t56),(57,t57),(58,t58),(59,t59),(61,t61),(62,t62),(63,t63),(64,t64),(65,t65),(66,t66),(67,t67),(68,t68),(69,t69),(70,t70),(71,t71),(75,t75),(76,t76),(77,t77),(78,t78),(80,t80),(82,t82),(88,t88),(91,t91),(92,t92),(93,t93),(94,t94),(95,t95),(96,t96),(97,t97),(98,t98),(99,t99),(101,P9),(102,CX),(103,CW),(104,P8),(105,VQ),(106,VP),(107,CV),(108,P7),(109,Ae),(110,tA),(111,VO),(112,VN),(125,VM),(126,VL),(127,VK),(128,VJ),(129,QB),(130,VI),(131,VH),(133,Dt),(134,Qd),(135,P6),(136,P5),(137,P4),(138,VG),(139,VF),(140,CT),(141,P3),(142,Ad),(143,VE),(144,VD),(151,VA),(152,UZ),(153,UY),(154,UX),(155,UW),(156,PQ),(157,UV),(158,UU),(159,UT),(160,UO),(161,UN),(163,UM),(165,P2),(166,UL),(167,UK),(168,P1),(169,Wc),(171,UJ),(172,UI),(174,UH),(175,UG),(184,UF),(185,P0),(187,UE),(188,UD),(192,UC)]
set_option maxRecDepth 100000 in
theorem Wa:Co Tryz.prog tab :=
 .cons (by kernel_rfl) c5<|
 .cons (by kernel_rfl) c6<|
 .cons (by kernel_rfl) c7<|
 .cons (by kernel_rfl) c8<|
 .cons (by kernel_rfl) c12<|
 .cons (by kernel_rfl) c13<|
 .cons (by kernel_rfl) c14<|
 .cons (by kernel_rfl) c15<|
 .cons (by kernel_rfl) c17<|
 .cons (by kernel_rfl) c18<|
 .cons (by kernel_rfl) c19<|
 .cons (by kernel_rfl) c20<|
 .cons (by kernel_rfl) c22<|
 .cons (by kernel_rfl) c23<|
 .cons (by kernel_rfl) c24<|
 .cons (by kernel_rfl) c25<|
 .cons (by kernel_rfl) c26<|
 .cons (by kernel_rfl) c27<|
 .cons (by kernel_rfl) c28<|
 .cons (by kernel_rfl) c29<|
 .cons (by kernel_rfl) c30<|
 .cons (by kernel_rfl) c31<|
 .cons (by kernel_rfl) c32<|
 .cons (by kernel_rfl) c33<|
 .cons (by kernel_rfl) c34<|
 .cons (by kernel_rfl) c35<|
 .cons (by kernel_rfl) c38<|
 .cons (by kernel_rfl) c41<|
 .cons (by kernel_rfl) c45<|
 .cons (by kernel_rfl) c46<|
 .cons (by kernel_rfl) c48<|
 .cons (by kernel_rfl) c49<|
 .cons (by kernel_rfl) c50<|
 .cons (by kernel_rfl) c51<|
 .cons (by kernel_rfl) c52<|
 .cons (by kernel_rfl) c53<|
 .cons (by kernel_rfl) c54<|
 .cons (by kernel_rfl) c55<|
 .cons (by kernel_rfl) c56<|
 .cons (by kernel_rfl) c57<|
 .cons (by kernel_rfl) c58<|
 .cons (by kernel_rfl) c59<|
 .cons (by kernel_rfl) c61<|
 .cons (by kernel_rfl) c62<|
 .cons (by kernel_rfl) c63<|
 .cons (by kernel_rfl) c64<|
 .cons (by kernel_rfl) c65<|
 .cons (by kernel_rfl) c66<|
 .cons (by kernel_rfl) c67<|
 .cons (by kernel_rfl) c68<|
 .cons (by kernel_rfl) c69<|
 .cons (by kernel_rfl) c70<|
 .cons (by kernel_rfl) c71<|
 .cons (by kernel_rfl) c75<|
 .cons (by kernel_rfl) c76<|
 .cons (by kernel_rfl) c77<|
 .cons (by kernel_rfl) c78<|
 .cons (by kernel_rfl) c80<|
 .cons (by kernel_rfl) c82<|
 .cons (by kernel_rfl) c88<|
 .cons (by kernel_rfl) c91<|
 .cons (by kernel_rfl) c92<|
 .cons (by kernel_rfl) c93<|
 .cons (by kernel_rfl) c94<|
 .cons (by kernel_rfl) c95<|
 .cons (by kernel_rfl) c96<|
 .cons (by kernel_rfl) c97<|
 .cons (by kernel_rfl) c98<|
 .cons (by kernel_rfl) c99<|
 .cons (by kernel_rfl) o8<|
 .cons (by kernel_rfl) o7<|
 .cons (by kernel_rfl) o6<|
 .cons (by kernel_rfl) o0<|
 .cons (by kernel_rfl) n9<|
 .cons (by kernel_rfl) n8<|
 .cons (by kernel_rfl) n7<|
 .cons (by kernel_rfl) m9<|
 .cons (by kernel_rfl) TF<|
 .cons (by kernel_rfl) TE<|
 .cons (by kernel_rfl) m8<|
 .cons (by kernel_rfl) m7<|
 .cons (by kernel_rfl) m6<|
 .cons (by kernel_rfl) m5<|
 .cons (by kernel_rfl) l9<|
 .cons (by kernel_rfl) l8<|
 .cons (by kernel_rfl) l7<|
 .cons (by kernel_rfl) l6<|
 .cons (by kernel_rfl) k9<|
 .cons (by kernel_rfl) TD<|
 .cons (by kernel_rfl) k8<|
 .cons (by kernel_rfl) k7<|
 .cons (by kernel_rfl) k6<|
 .cons (by kernel_rfl) j9<|
 .cons (by kernel_rfl) j8<|
 .cons (by kernel_rfl) j7<|
 .cons (by kernel_rfl) j6<|
 .cons (by kernel_rfl) j5<|
 .cons (by kernel_rfl) TC<|
 .cons (by kernel_rfl) i9<|
 .cons (by kernel_rfl) i8<|
 .cons (by kernel_rfl) i7<|
 .cons (by kernel_rfl) i6<|
 .cons (by kernel_rfl) TB<|
 .cons (by kernel_rfl) TA<|
 .cons (by kernel_rfl) i5<|
 .cons (by kernel_rfl) d9<|
 .cons (by kernel_rfl) d8<|
 .cons (by kernel_rfl) d7<|
 .cons (by kernel_rfl) d6<|
 .cons (by kernel_rfl) d4<|
 .cons (by kernel_rfl) c9<|
 .cons (by kernel_rfl) b9<|
 .cons (by kernel_rfl) b8<|
 .cons (by kernel_rfl) b7<|
 .cons (by kernel_rfl) b6<|
 .cons (by kernel_rfl) a7<|
 .cons (by kernel_rfl) a6<|
 .cons (by kernel_rfl) ZZ<|
 .cons (by kernel_rfl) ZY<|
 .cons (by kernel_rfl) ZX<|
 .cons (by kernel_rfl) ZW<|
 .cons (by kernel_rfl) ZV<|
 .cons (by kernel_rfl) ZU<|
 .cons (by kernel_rfl) ZT<|
 .cons (by kernel_rfl) ZS<|
 .cons (by kernel_rfl) ZR<|
 .nil
def ZP:mE Tryz.prog Tryz.f44 102 3 40 (.agg [(.int .i64 0),(.int .i64 0),.nsl]) :=
 ⟨_,_,_,_,_,_,_,_,_,29,29,102,rfl,by kernel_rfl,by kernel_rfl,rfl,rfl,rfl,by kernel_rfl,by kernel_rfl,by kernel_rfl,rfl,rfl⟩
def ZM:mE Tryz.prog Tryz.f74 58 7 72 (.agg [(.int .i64 0),(.int .i64 0),(.int .i64 0),(.int .i64 0),.nsl,(.int .i64 0),(.bool false)]) :=
 ⟨_,_,_,_,_,_,_,_,_,28,28,58,rfl,by kernel_rfl,by kernel_rfl,rfl,rfl,rfl,by kernel_rfl,by kernel_rfl,by kernel_rfl,rfl,rfl⟩
def ZN:mE Tryz.prog Tryz.f73 24 2 16 (.agg [(.int .i64 0),(.int .i64 0)]) :=
 ⟨_,_,_,_,_,_,_,_,_,27,27,24,rfl,by kernel_rfl,by kernel_rfl,rfl,rfl,rfl,by kernel_rfl,by kernel_rfl,by kernel_rfl,rfl,rfl⟩
def ZO:mE Tryz.prog Tryz.f72 37 4 48 (.agg [(.int .i64 0),(.int .i64 0),.nsl,(.int .i64 0)]) :=
 ⟨_,_,_,_,_,_,_,_,_,26,26,37,rfl,by kernel_rfl,by kernel_rfl,rfl,rfl,rfl,by kernel_rfl,by kernel_rfl,by kernel_rfl,rfl,rfl⟩
def ZQ:mE Tryz.prog Tryz.f36 3 1 8 (.int .i64 0) :=
 ⟨_,_,_,_,_,_,_,_,_,25,25,3,rfl,by kernel_rfl,by kernel_rfl,rfl,rfl,rfl,by kernel_rfl,by kernel_rfl,by kernel_rfl,rfl,rfl⟩
def WX:mE Tryz.prog Tryz.f100 76 2 16 (.agg [(.int .i64 0),(.int .i64 0)]) :=
 ⟨_,_,_,_,_,_,_,_,_,64,64,76,rfl,by kernel_rfl,by kernel_rfl,rfl,rfl,rfl,by kernel_rfl,by kernel_rfl,by kernel_rfl,rfl,rfl⟩
def hooks:List (Nat×qK):=[(173,dM),(162,dM),(81,dM),(79,dM),(186,mP),(37,qR),(132,nP 133),(44,bP 102 3 40),(74,bP 58 7 72),(73,bP 24 2 16),(72,bP 37 4 48),(36,bP 3 1 8),(100,nG 76 2 16)]
theorem Fn:qA Tryz.prog hooks :=
 .cons (pP (fn:=Tryz.f173) (tS:=35) (tR:=4) (e:=98) (by kernel_rfl) (by kernel_rfl) (by kernel_rfl) (by kernel_rfl) (by kernel_rfl) (by kernel_rfl) (by kernel_rfl)) <|
 .cons (pP (fn:=Tryz.f162) (tS:=28) (tR:=4) (e:=58) (by kernel_rfl) (by kernel_rfl) (by kernel_rfl) (by kernel_rfl) (by kernel_rfl) (by kernel_rfl) (by kernel_rfl)) <|
 .cons (pP (fn:=Tryz.f81) (tS:=27) (tR:=4) (e:=24) (by kernel_rfl) (by kernel_rfl) (by kernel_rfl) (by kernel_rfl) (by kernel_rfl) (by kernel_rfl) (by kernel_rfl)) <|
 .cons (pP (fn:=Tryz.f79) (tS:=26) (tR:=4) (e:=37) (by kernel_rfl) (by kernel_rfl) (by kernel_rfl) (by kernel_rfl) (by kernel_rfl) (by kernel_rfl) (by kernel_rfl)) <|
 .cons (B6 (fn:=Tryz.f186) (by kernel_rfl) (by kernel_rfl) (by kernel_rfl) (by kernel_rfl) (by kernel_rfl)) <|
 .cons Sorts.s37_ok <|
 .cons Sorts.s132_ok <|
 .cons (rG (fn:=Tryz.f44) (by kernel_rfl) (by kernel_rfl) (by kernel_rfl) ZP) <|
 .cons (rG (fn:=Tryz.f74) (by kernel_rfl) (by kernel_rfl) (by kernel_rfl) ZM) <|
 .cons (rG (fn:=Tryz.f73) (by kernel_rfl) (by kernel_rfl) (by kernel_rfl) ZN) <|
 .cons (rG (fn:=Tryz.f72) (by kernel_rfl) (by kernel_rfl) (by kernel_rfl) ZO) <|
 .cons (rG (fn:=Tryz.f36) (by kernel_rfl) (by kernel_rfl) (by kernel_rfl) ZQ) <|
 .cons (RQ (rG (fn:=Tryz.f100) (by kernel_rfl) (by kernel_rfl) (by kernel_rfl) WX)) <|
 .nil
def D:bX:=Nx tab hooks
theorem good:Je Tryz.prog D:=zC (by kernel_rfl) Wa Fn
end Go.Dm.Tc
