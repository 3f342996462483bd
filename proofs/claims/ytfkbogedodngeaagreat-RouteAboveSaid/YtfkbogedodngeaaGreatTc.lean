/- A part of the proof. -/
import Derived.Test.YtfkbogedodngeaaGreatTc0
import Derived.Test.YtfkbogedodngeaaGreatTc1
import Derived.Test.YtfkbogedodngeaaGreatTc2
import Derived.Test.YtfkbogedodngeaaGreatSorts
namespace Go.Dm.Tc
open Go.Proofs
def tab:List (Nat×aV):=[(3,t3),(6,t6),(7,t7),(8,t8),(9,t9),(10,t10),(11,t11),(12,t12),(13,t13),(14,t14),(15,t15),(16,t16),(31,t31),(32,t32),(33,t33),(34,t34),(35,t35),(38,t38),(39,t39),(40,t40),(41,t41),(42,t42),(43,t43),(45,t45),(46,t46),(47,t47),(48,t48),(49,t49),(52,t52),(66,t66),(75,t75),(76,t76),(77,t77),(78,t78),(80,t80),(82,t82),(85,t85),(86,t86),(87,t87),(88,t88),(90,t90),(91,t91),(92,t92),(93,t93),(94,t94),(95,t95),(96,t96),(97,t97),(109,Aw),(110,uO),(111,QT),(112,QS),(124,QR),(125,N0),(126,M9),(127,M8),(128,M7),(129,xN),(130,M6),(131,Wj),(142,Av),(143,QQ),(144,QP),(150,QO),(151,wV),(152,M5),(153,M4),(154,M3),(155,wU),(156,xM),(157,M2),(158,L9),(159,Qg),(160,L8),(161,L7),(163,QN),(165,L6),(171,L5),(172,L4),(174,QM),(175,QL),(187,QK),(188,QJ),(192,QI)]
set_option maxRecDepth 100000 in
theorem Wb:Cz Tryz.prog tab :=
 .cons (by kernel_rfl) c3<|
 .cons (by kernel_rfl) c6<|
 .cons (by kernel_rfl) c7<|
 .cons (by kernel_rfl) c8<|
 .cons (by kernel_rfl) c9<|
 .cons (by kernel_rfl) c10<|
 .cons (by kernel_rfl) c11<|
 .cons (by kernel_rfl) c12<|
 .cons (by kernel_rfl) c13<|
 .cons (by kernel_rfl) c14<|
 .cons (by kernel_rfl) c15<|
 .cons (by kernel_rfl) c16<|
 .cons (by kernel_rfl) c31<|
 .cons (by kernel_rfl) c32<|
 .cons (by kernel_rfl) c33<|
 .cons (by kernel_rfl) c34<|
 .cons (by kernel_rfl) c35<|
 .cons (by kernel_rfl) c38<|
 .cons (by kernel_rfl) c39<|
 .cons (by kernel_rfl) c40<|
 .cons (by kernel_rfl) c41<|
 .cons (by kernel_rfl) c42<|
 .cons (by kernel_rfl) c43<|
 .cons (by kernel_rfl) c45<|
 .cons (by kernel_rfl) c46<|
 .cons (by kernel_rfl) c47<|
 .cons (by kernel_rfl) c48<|
 .cons (by kernel_rfl) c49<|
 .cons (by kernel_rfl) c52<|
 .cons (by kernel_rfl) c66<|
 .cons (by kernel_rfl) c75<|
 .cons (by kernel_rfl) c76<|
 .cons (by kernel_rfl) c77<|
 .cons (by kernel_rfl) c78<|
 .cons (by kernel_rfl) c80<|
 .cons (by kernel_rfl) c82<|
 .cons (by kernel_rfl) c85<|
 .cons (by kernel_rfl) c86<|
 .cons (by kernel_rfl) c87<|
 .cons (by kernel_rfl) c88<|
 .cons (by kernel_rfl) c90<|
 .cons (by kernel_rfl) c91<|
 .cons (by kernel_rfl) c92<|
 .cons (by kernel_rfl) c93<|
 .cons (by kernel_rfl) c94<|
 .cons (by kernel_rfl) c95<|
 .cons (by kernel_rfl) c96<|
 .cons (by kernel_rfl) c97<|
 .cons (by kernel_rfl) PS<|
 .cons (by kernel_rfl) PR<|
 .cons (by kernel_rfl) VV<|
 .cons (by kernel_rfl) VU<|
 .cons (by kernel_rfl) VT<|
 .cons (by kernel_rfl) VS<|
 .cons (by kernel_rfl) VQ<|
 .cons (by kernel_rfl) VP<|
 .cons (by kernel_rfl) VO<|
 .cons (by kernel_rfl) VN<|
 .cons (by kernel_rfl) VM<|
 .cons (by kernel_rfl) VL<|
 .cons (by kernel_rfl) PQ<|
 .cons (by kernel_rfl) VJ<|
 .cons (by kernel_rfl) VI<|
 .cons (by kernel_rfl) VH<|
 .cons (by kernel_rfl) VG<|
 .cons (by kernel_rfl) VF<|
 .cons (by kernel_rfl) VE<|
 .cons (by kernel_rfl) VD<|
 .cons (by kernel_rfl) VC<|
 .cons (by kernel_rfl) VB<|
 .cons (by kernel_rfl) VA<|
 .cons (by kernel_rfl) UZ<|
 .cons (by kernel_rfl) UY<|
 .cons (by kernel_rfl) UX<|
 .cons (by kernel_rfl) UW<|
 .cons (by kernel_rfl) UV<|
 .cons (by kernel_rfl) UU<|
 .cons (by kernel_rfl) UT<|
 .cons (by kernel_rfl) US<|
 .cons (by kernel_rfl) UR<|
 .cons (by kernel_rfl) UQ<|
 .cons (by kernel_rfl) UP<|
 .cons (by kernel_rfl) UO<|
 .cons (by kernel_rfl) UN<|
 .nil
def UI:pP Tryz.prog Tryz.f74 58 7 72 (.agg [(.int .i64 0),(.int .i64 0),(.int .i64 0),(.int .i64 0),.nsl,(.int .i64 0),(.bool false)]) :=
 ⟨_,_,_,_,_,_,_,_,_,28,28,58,rfl,by kernel_rfl,by kernel_rfl,rfl,rfl,rfl,by kernel_rfl,by kernel_rfl,by kernel_rfl,rfl,rfl⟩
def UJ:pP Tryz.prog Tryz.f73 24 2 16 (.agg [(.int .i64 0),(.int .i64 0)]) :=
 ⟨_,_,_,_,_,_,_,_,_,27,27,24,rfl,by kernel_rfl,by kernel_rfl,rfl,rfl,rfl,by kernel_rfl,by kernel_rfl,by kernel_rfl,rfl,rfl⟩
def UK:pP Tryz.prog Tryz.f72 37 4 48 (.agg [(.int .i64 0),(.int .i64 0),.nsl,(.int .i64 0)]) :=
 ⟨_,_,_,_,_,_,_,_,_,26,26,37,rfl,by kernel_rfl,by kernel_rfl,rfl,rfl,rfl,by kernel_rfl,by kernel_rfl,by kernel_rfl,rfl,rfl⟩
def UL:pP Tryz.prog Tryz.f44 102 3 40 (.agg [(.int .i64 0),(.int .i64 0),.nsl]) :=
 ⟨_,_,_,_,_,_,_,_,_,29,29,102,rfl,by kernel_rfl,by kernel_rfl,rfl,rfl,rfl,by kernel_rfl,by kernel_rfl,by kernel_rfl,rfl,rfl⟩
def UM:pP Tryz.prog Tryz.f36 3 1 8 (.int .i64 0) :=
 ⟨_,_,_,_,_,_,_,_,_,25,25,3,rfl,by kernel_rfl,by kernel_rfl,rfl,rfl,rfl,by kernel_rfl,by kernel_rfl,by kernel_rfl,rfl,rfl⟩
def hooks:List (Nat×rS):=[(173,cO),(162,cO),(89,cO),(81,cO),(79,cO),(186,lN),(37,rU),(74,cH 58 7 72),(73,cH 24 2 16),(72,cH 37 4 48),(44,cH 102 3 40),(36,cH 3 1 8)]
theorem Gp:qZ Tryz.prog hooks :=
 .cons (nP (fn:=Tryz.f173) (tS:=35) (tR:=4) (e:=98) (by kernel_rfl) (by kernel_rfl) (by kernel_rfl) (by kernel_rfl) (by kernel_rfl) (by kernel_rfl) (by kernel_rfl)) <|
 .cons (nP (fn:=Tryz.f162) (tS:=28) (tR:=4) (e:=58) (by kernel_rfl) (by kernel_rfl) (by kernel_rfl) (by kernel_rfl) (by kernel_rfl) (by kernel_rfl) (by kernel_rfl)) <|
 .cons (nP (fn:=Tryz.f89) (tS:=29) (tR:=4) (e:=102) (by kernel_rfl) (by kernel_rfl) (by kernel_rfl) (by kernel_rfl) (by kernel_rfl) (by kernel_rfl) (by kernel_rfl)) <|
 .cons (nP (fn:=Tryz.f81) (tS:=27) (tR:=4) (e:=24) (by kernel_rfl) (by kernel_rfl) (by kernel_rfl) (by kernel_rfl) (by kernel_rfl) (by kernel_rfl) (by kernel_rfl)) <|
 .cons (nP (fn:=Tryz.f79) (tS:=26) (tR:=4) (e:=37) (by kernel_rfl) (by kernel_rfl) (by kernel_rfl) (by kernel_rfl) (by kernel_rfl) (by kernel_rfl) (by kernel_rfl)) <|
 .cons (A7 (fn:=Tryz.f186) (by kernel_rfl) (by kernel_rfl) (by kernel_rfl) (by kernel_rfl) (by kernel_rfl)) <|
 .cons Sorts.s37_ok <|
 .cons (vQ (fn:=Tryz.f74) (by kernel_rfl) (by kernel_rfl) (by kernel_rfl) UI) <|
 .cons (vQ (fn:=Tryz.f73) (by kernel_rfl) (by kernel_rfl) (by kernel_rfl) UJ) <|
 .cons (vQ (fn:=Tryz.f72) (by kernel_rfl) (by kernel_rfl) (by kernel_rfl) UK) <|
 .cons (vQ (fn:=Tryz.f44) (by kernel_rfl) (by kernel_rfl) (by kernel_rfl) UL) <|
 .cons (vQ (fn:=Tryz.f36) (by kernel_rfl) (by kernel_rfl) (by kernel_rfl) UM) <|
 .nil
def D:bV:=Nz tab hooks
theorem good:Kc Tryz.prog D:=zS (by kernel_rfl) Wb Gp
end Go.Dm.Tc
