/- A part of the proof. -/
import Derived.Test.YtloabemenciijaaGreatDoorTc0
import Derived.Test.YtloabemenciijaaGreatDoorTc1
import Derived.Test.YtloabemenciijaaGreatDoorTc2
import Derived.Test.YtloabemenciijaaGreatDoorTc3
import Derived.Test.YtloabemenciijaaGreatDoorTc4
import Derived.Test.YtloabemenciijaaGreatDoorTc5
import Derived.Test.YtloabemenciijaaGreatDoorAsD
import Derived.Test.YtloabemenciijaaGreatDoorSorts
namespace Go.Dm.Tc
open Go.Proofs
def tab:List (Nat×aD):=[(7,t7),(8,t8),(13,t13),(18,t18),(23,t23),(28,t28),(32,t32),(37,t37),(38,t38),(39,t39),(40,t40),(41,t41),(42,t42),(43,t43),(44,t44),(46,t46),(48,t48),(49,t49),(55,t55),(56,t56),(58,t58),(63,t63),(64,t64),(65,t65),(77,t77),(78,t78),(79,t79),(80,t80),(81,t81),(82,t82),(92,t92),(93,t93),(94,t94),(95,t95),(99,t99),(106,vM),(107,RI),(112,RH),(113,RG),(118,RF),(119,RE),(120,RD),(121,RC),(125,RB),(126,RA),(127,Iw),(128,Iv),(129,Ow),(131,yT),(132,pF),(133,Iu),(134,QZ),(135,QY),(136,QX),(137,QW),(138,QV),(139,QU),(142,QT),(144,QS),(145,QR),(146,QQ),(147,QP),(154,QO),(155,QN),(156,QM),(159,QL),(167,QK),(168,QJ),(169,QI),(170,QH),(171,QG),(172,QF),(179,QE),(180,QD),(181,QC),(182,QB),(183,QA),(184,PZ),(185,PY),(186,PX),(187,PW),(188,PV),(189,PU),(193,PT),(194,PS),(195,PR),(196,PQ),(197,PP),(199,PO),(200,PN),(201,PM),(202,PL),(204,PJ),(205,PI),(206,PH),(213,PG),(214,PF),(215,PE),(216,PD),(217,Vv),(220,vL),(221,PC),(222,PB),(226,PA),(227,OZ),(228,OY),(229,OX),(230,OW),(231,GE),(237,OV),(238,OU),(239,OT),(240,OS),(245,OR),(246,FX),(247,FW),(248,OQ),(249,OP),(250,FV),(251,OO),(252,ON),(253,OM),(254,OL),(255,OK),(256,OJ),(258,OI),(259,OH),(260,OG),(261,OF),(262,OE),(263,OD),(265,OC),(273,OB),(274,OA),(275,NZ),(276,NY),(278,NX),(289,NW),(290,NV),(291,NU),(292,NT),(294,NS),(307,NR),(309,NQ),(310,NP),(311,NO),(312,NN),(313,NM),(315,NL),(316,NK),(317,NJ),(318,NI),(320,NH),(321,NG),(325,NF),(326,NE),(327,ND),(328,NC),(329,NB),(330,NA),(331,MZ),(337,MY),(338,MX),(339,MW),(344,MV),(345,MU),(346,MT),(347,MS),(348,MR),(349,MQ),(350,EM),(351,MP),(352,MO),(353,MN),(355,MM),(356,ML),(357,MK),(359,MJ),(360,MI),(361,MH),(362,MG),(364,MF),(365,ME),(367,MD),(368,MC),(369,MB),(371,MA),(372,LZ),(373,LY),(375,LX),(376,LW)]
set_option maxRecDepth 100000 in
theorem Ou:xN Tryz.prog tab :=
 .cons (by kernel_rfl) c7<|
 .cons (by kernel_rfl) c8<|
 .cons (by kernel_rfl) c13<|
 .cons (by kernel_rfl) c18<|
 .cons (by kernel_rfl) c23<|
 .cons (by kernel_rfl) c28<|
 .cons (by kernel_rfl) c32<|
 .cons (by kernel_rfl) c37<|
 .cons (by kernel_rfl) c38<|
 .cons (by kernel_rfl) c39<|
 .cons (by kernel_rfl) c40<|
 .cons (by kernel_rfl) c41<|
 .cons (by kernel_rfl) c42<|
 .cons (by kernel_rfl) c43<|
 .cons (by kernel_rfl) c44<|
 .cons (by kernel_rfl) c46<|
 .cons (by kernel_rfl) c48<|
 .cons (by kernel_rfl) c49<|
 .cons (by kernel_rfl) c55<|
 .cons (by kernel_rfl) c56<|
 .cons (by kernel_rfl) c58<|
 .cons (by kernel_rfl) c63<|
 .cons (by kernel_rfl) c64<|
 .cons (by kernel_rfl) c65<|
 .cons (by kernel_rfl) c77<|
 .cons (by kernel_rfl) c78<|
 .cons (by kernel_rfl) c79<|
 .cons (by kernel_rfl) c80<|
 .cons (by kernel_rfl) c81<|
 .cons (by kernel_rfl) c82<|
 .cons (by kernel_rfl) c92<|
 .cons (by kernel_rfl) c93<|
 .cons (by kernel_rfl) c94<|
 .cons (by kernel_rfl) c95<|
 .cons (by kernel_rfl) c99<|
 .cons (by kernel_rfl) KM<|
 .cons (by kernel_rfl) f9<|
 .cons (by kernel_rfl) f0<|
 .cons (by kernel_rfl) e6<|
 .cons (by kernel_rfl) d9<|
 .cons (by kernel_rfl) d8<|
 .cons (by kernel_rfl) d7<|
 .cons (by kernel_rfl) d6<|
 .cons (by kernel_rfl) d5<|
 .cons (by kernel_rfl) d4<|
 .cons (by kernel_rfl) c9<|
 .cons (by kernel_rfl) c6<|
 .cons (by kernel_rfl) c5<|
 .cons (by kernel_rfl) KL<|
 .cons (by kernel_rfl) KK<|
 .cons (by kernel_rfl) a9<|
 .cons (by kernel_rfl) a7<|
 .cons (by kernel_rfl) a6<|
 .cons (by kernel_rfl) ZZ<|
 .cons (by kernel_rfl) ZY<|
 .cons (by kernel_rfl) ZX<|
 .cons (by kernel_rfl) ZW<|
 .cons (by kernel_rfl) ZV<|
 .cons (by kernel_rfl) ZU<|
 .cons (by kernel_rfl) ZT<|
 .cons (by kernel_rfl) ZS<|
 .cons (by kernel_rfl) ZR<|
 .cons (by kernel_rfl) ZQ<|
 .cons (by kernel_rfl) ZP<|
 .cons (by kernel_rfl) ZO<|
 .cons (by kernel_rfl) ZN<|
 .cons (by kernel_rfl) ZM<|
 .cons (by kernel_rfl) ZK<|
 .cons (by kernel_rfl) ZJ<|
 .cons (by kernel_rfl) ZI<|
 .cons (by kernel_rfl) ZH<|
 .cons (by kernel_rfl) ZG<|
 .cons (by kernel_rfl) ZF<|
 .cons (by kernel_rfl) ZE<|
 .cons (by kernel_rfl) ZD<|
 .cons (by kernel_rfl) ZC<|
 .cons (by kernel_rfl) ZB<|
 .cons (by kernel_rfl) ZA<|
 .cons (by kernel_rfl) YZ<|
 .cons (by kernel_rfl) YY<|
 .cons (by kernel_rfl) YX<|
 .cons (by kernel_rfl) YW<|
 .cons (by kernel_rfl) YV<|
 .cons (by kernel_rfl) YU<|
 .cons (by kernel_rfl) YT<|
 .cons (by kernel_rfl) YS<|
 .cons (by kernel_rfl) YR<|
 .cons (by kernel_rfl) YQ<|
 .cons (by kernel_rfl) YP<|
 .cons (by kernel_rfl) YO<|
 .cons (by kernel_rfl) YN<|
 .cons (by kernel_rfl) YM<|
 .cons (by kernel_rfl) YL<|
 .cons (by kernel_rfl) YK<|
 .cons (by kernel_rfl) YJ<|
 .cons (by kernel_rfl) YI<|
 .cons (by kernel_rfl) YH<|
 .cons (by kernel_rfl) YG<|
 .cons (by kernel_rfl) YF<|
 .cons (by kernel_rfl) YE<|
 .cons (by kernel_rfl) KJ<|
 .cons (by kernel_rfl) YD<|
 .cons (by kernel_rfl) YC<|
 .cons (by kernel_rfl) YB<|
 .cons (by kernel_rfl) YA<|
 .cons (by kernel_rfl) XZ<|
 .cons (by kernel_rfl) XY<|
 .cons (by kernel_rfl) XX<|
 .cons (by kernel_rfl) XW<|
 .cons (by kernel_rfl) XV<|
 .cons (by kernel_rfl) XU<|
 .cons (by kernel_rfl) XT<|
 .cons (by kernel_rfl) XS<|
 .cons (by kernel_rfl) XR<|
 .cons (by kernel_rfl) XQ<|
 .cons (by kernel_rfl) XP<|
 .cons (by kernel_rfl) XO<|
 .cons (by kernel_rfl) XN<|
 .cons (by kernel_rfl) XM<|
 .cons (by kernel_rfl) XL<|
 .cons (by kernel_rfl) XK<|
 .cons (by kernel_rfl) XJ<|
 .cons (by kernel_rfl) XI<|
 .cons (by kernel_rfl) XH<|
 .cons (by kernel_rfl) XG<|
 .cons (by kernel_rfl) XF<|
 .cons (by kernel_rfl) XE<|
 .cons (by kernel_rfl) XD<|
 .cons (by kernel_rfl) XC<|
 .cons (by kernel_rfl) XB<|
 .cons (by kernel_rfl) XA<|
 .cons (by kernel_rfl) WZ<|
 .cons (by kernel_rfl) WY<|
 .cons (by kernel_rfl) WX<|
 .cons (by kernel_rfl) WW<|
 .cons (by kernel_rfl) WV<|
 .cons (by kernel_rfl) WU<|
 .cons (by kernel_rfl) WT<|
 .cons (by kernel_rfl) WS<|
 .cons (by kernel_rfl) WR<|
 .cons (by kernel_rfl) WQ<|
 .cons (by kernel_rfl) WP<|
 .cons (by kernel_rfl) WO<|
 .cons (by kernel_rfl) WN<|
 .cons (by kernel_rfl) WM<|
 .cons (by kernel_rfl) WL<|
 .cons (by kernel_rfl) WK<|
 .cons (by kernel_rfl) WJ<|
 .cons (by kernel_rfl) WI<|
 .cons (by kernel_rfl) WH<|
 .cons (by kernel_rfl) WG<|
 .cons (by kernel_rfl) WE<|
 .cons (by kernel_rfl) WD<|
 .cons (by kernel_rfl) WC<|
 .cons (by kernel_rfl) WB<|
 .cons (by kernel_rfl) WA<|
 .cons (by kernel_rfl) VZ<|
 .cons (by kernel_rfl) VY<|
 .cons (by kernel_rfl) VX<|
 .cons (by kernel_rfl) VW<|
 .cons (by kernel_rfl) VV<|
 .cons (by kernel_rfl) VU<|
 .cons (by kernel_rfl) VT<|
 .cons (by kernel_rfl) VS<|
 .cons (by kernel_rfl) VQ<|
 .cons (by kernel_rfl) VP<|
 .cons (by kernel_rfl) VO<|
 .cons (by kernel_rfl) VN<|
 .cons (by kernel_rfl) VM<|
 .cons (by kernel_rfl) VL<|
 .cons (by kernel_rfl) VK<|
 .cons (by kernel_rfl) VJ<|
 .cons (by kernel_rfl) VI<|
 .cons (by kernel_rfl) VH<|
 .cons (by kernel_rfl) VG<|
 .cons (by kernel_rfl) VF<|
 .cons (by kernel_rfl) VE<|
 .cons (by kernel_rfl) VD<|
 .cons (by kernel_rfl) VC<|
 .cons (by kernel_rfl) VB<|
 .cons (by kernel_rfl) VA<|
 .cons (by kernel_rfl) UZ<|
 .cons (by kernel_rfl) UY<|
 .cons (by kernel_rfl) UX<|
 .cons (by kernel_rfl) UW<|
 .cons (by kernel_rfl) UV<|
 .cons (by kernel_rfl) UU<|
 .cons (by kernel_rfl) UT<|
 .cons (by kernel_rfl) US<|
 .cons (by kernel_rfl) UR<|
 .cons (by kernel_rfl) UQ<|
 .nil
def TC:dX Tryz.prog Tryz.f150 45 2 16 (.agg [(.int .i64 0),(.int .i64 0)]) :=
 ⟨_,_,_,_,_,_,_,_,_,33,33,45,rfl,by kernel_rfl,by kernel_rfl,rfl,rfl,rfl,by kernel_rfl,by kernel_rfl,by kernel_rfl,rfl,rfl⟩
def TD:dX Tryz.prog Tryz.f149 86 4 48 (.agg [(.int .i64 0),(.int .i64 0),.nsl,(.int .i64 0)]) :=
 ⟨_,_,_,_,_,_,_,_,_,32,32,86,rfl,by kernel_rfl,by kernel_rfl,rfl,rfl,rfl,by kernel_rfl,by kernel_rfl,by kernel_rfl,rfl,rfl⟩
def TA:dX Tryz.prog Tryz.f152 151 3 40 (.agg [(.int .i64 0),(.int .i64 0),.nsl]) :=
 ⟨_,_,_,_,_,_,_,_,_,35,35,151,rfl,by kernel_rfl,by kernel_rfl,rfl,rfl,rfl,by kernel_rfl,by kernel_rfl,by kernel_rfl,rfl,rfl⟩
def TB:dX Tryz.prog Tryz.f151 88 7 72 (.agg [(.int .i64 0),(.int .i64 0),(.int .i64 0),(.int .i64 0),.nsl,(.int .i64 0),(.bool false)]) :=
 ⟨_,_,_,_,_,_,_,_,_,34,34,88,rfl,by kernel_rfl,by kernel_rfl,rfl,rfl,rfl,by kernel_rfl,by kernel_rfl,by kernel_rfl,rfl,rfl⟩
def ST:dX Tryz.prog Tryz.f358 420 2 32 (.agg [(.int .i64 0),.nsl]) :=
 ⟨_,_,_,_,_,_,_,_,_,369,369,420,rfl,by kernel_rfl,by kernel_rfl,rfl,rfl,rfl,by kernel_rfl,by kernel_rfl,by kernel_rfl,rfl,rfl⟩
def SU:dX Tryz.prog Tryz.f354 171 4 48 (.agg [(.int .i64 0),(.int .i64 0),(.int .i64 0),.nsl]) :=
 ⟨_,_,_,_,_,_,_,_,_,53,53,171,rfl,by kernel_rfl,by kernel_rfl,rfl,rfl,rfl,by kernel_rfl,by kernel_rfl,by kernel_rfl,rfl,rfl⟩
def SW:dX Tryz.prog Tryz.f225 49 7 88 (.agg [(.int .i64 0),(.int .i64 0),(.int .i64 0),(.int .i64 0),(.int .i64 0),.nsl,.nsl]) :=
 ⟨_,_,_,_,_,_,_,_,_,110,110,49,rfl,by kernel_rfl,by kernel_rfl,rfl,rfl,rfl,by kernel_rfl,by kernel_rfl,by kernel_rfl,rfl,rfl⟩
def SZ:dX Tryz.prog Tryz.f153 248 4 32 (.agg [(.int .i64 0),(.int .i64 0),(.int .i64 0),(.int .i64 0)]) :=
 ⟨_,_,_,_,_,_,_,_,_,120,120,248,rfl,by kernel_rfl,by kernel_rfl,rfl,rfl,rfl,by kernel_rfl,by kernel_rfl,by kernel_rfl,rfl,rfl⟩
def SY:dX Tryz.prog Tryz.f158 37 6 128 (.agg [(.int .i64 0),.nsl,.nsl,.nsl,.nsl,.nsl]) :=
 ⟨_,_,_,_,_,_,_,_,_,228,228,37,rfl,by kernel_rfl,by kernel_rfl,rfl,rfl,rfl,by kernel_rfl,by kernel_rfl,by kernel_rfl,rfl,rfl⟩
def SV:dX Tryz.prog Tryz.f277 176 4 48 (.agg [(.str []),(.bool false),(.int .i64 0),(.str [])]) :=
 ⟨_,_,_,_,_,_,_,_,_,47,47,176,rfl,by kernel_rfl,by kernel_rfl,rfl,rfl,rfl,by kernel_rfl,by kernel_rfl,by kernel_rfl,rfl,rfl⟩
def TE:dX Tryz.prog Tryz.f148 3 1 8 (.int .i64 0) :=
 ⟨_,_,_,_,_,_,_,_,_,25,25,3,rfl,by kernel_rfl,by kernel_rfl,rfl,rfl,rfl,by kernel_rfl,by kernel_rfl,by kernel_rfl,rfl,rfl⟩
def SX:dX Tryz.prog Tryz.f223 90 2 16 (.agg [(.int .i64 0),(.int .i64 0)]) :=
 ⟨_,_,_,_,_,_,_,_,_,77,77,90,rfl,by kernel_rfl,by kernel_rfl,rfl,rfl,rfl,by kernel_rfl,by kernel_rfl,by kernel_rfl,rfl,rfl⟩
def hooks:List (Nat×lP):=[(293,cI),(314,cI),(308,cI),(306,cI),(370,cI),(374,jU),(178,mP),(130,kQ 131),(75,Go.Proofs.YtloabemenciijaaGreatDoor.Err.asHook),(150,bL 45 2 16),(149,bL 86 4 48),(152,bL 151 3 40),(151,bL 88 7 72),(358,bL 420 2 32),(354,bL 171 4 48),(225,nX 49 7 88),(153,bL 248 4 32),(158,bL 37 6 128),(277,bL 176 4 48),(148,bL 3 1 8),(223,nX 90 2 16)]
theorem Ak:mD Tryz.prog hooks :=
 .cons (jP (fn:=Tryz.f293) (tS:=35) (tR:=4) (e:=151) (by kernel_rfl) (by kernel_rfl) (by kernel_rfl) (by kernel_rfl) (by kernel_rfl) (by kernel_rfl) (by kernel_rfl)) <|
 .cons (jP (fn:=Tryz.f314) (tS:=34) (tR:=4) (e:=88) (by kernel_rfl) (by kernel_rfl) (by kernel_rfl) (by kernel_rfl) (by kernel_rfl) (by kernel_rfl) (by kernel_rfl)) <|
 .cons (jP (fn:=Tryz.f308) (tS:=33) (tR:=4) (e:=45) (by kernel_rfl) (by kernel_rfl) (by kernel_rfl) (by kernel_rfl) (by kernel_rfl) (by kernel_rfl) (by kernel_rfl)) <|
 .cons (jP (fn:=Tryz.f306) (tS:=32) (tR:=4) (e:=86) (by kernel_rfl) (by kernel_rfl) (by kernel_rfl) (by kernel_rfl) (by kernel_rfl) (by kernel_rfl) (by kernel_rfl)) <|
 .cons (jP (fn:=Tryz.f370) (tS:=46) (tR:=4) (e:=119) (by kernel_rfl) (by kernel_rfl) (by kernel_rfl) (by kernel_rfl) (by kernel_rfl) (by kernel_rfl) (by kernel_rfl)) <|
 .cons (Su (fn:=Tryz.f374) (by kernel_rfl) (by kernel_rfl) (by kernel_rfl) (by kernel_rfl) (by kernel_rfl)) <|
 .cons Sorts.s178_ok <|
 .cons Sorts.s130_ok <|
 .cons Go.Proofs.YtloabemenciijaaGreatDoor.Err.asHookOk <|
 .cons (fG (fn:=Tryz.f150) (by kernel_rfl) (by kernel_rfl) (by kernel_rfl) TC) <|
 .cons (fG (fn:=Tryz.f149) (by kernel_rfl) (by kernel_rfl) (by kernel_rfl) TD) <|
 .cons (fG (fn:=Tryz.f152) (by kernel_rfl) (by kernel_rfl) (by kernel_rfl) TA) <|
 .cons (fG (fn:=Tryz.f151) (by kernel_rfl) (by kernel_rfl) (by kernel_rfl) TB) <|
 .cons (fG (fn:=Tryz.f358) (by kernel_rfl) (by kernel_rfl) (by kernel_rfl) ST) <|
 .cons (fG (fn:=Tryz.f354) (by kernel_rfl) (by kernel_rfl) (by kernel_rfl) SU) <|
 .cons (O5 (fG (fn:=Tryz.f225) (by kernel_rfl) (by kernel_rfl) (by kernel_rfl) SW)) <|
 .cons (fG (fn:=Tryz.f153) (by kernel_rfl) (by kernel_rfl) (by kernel_rfl) SZ) <|
 .cons (fG (fn:=Tryz.f158) (by kernel_rfl) (by kernel_rfl) (by kernel_rfl) SY) <|
 .cons (fG (fn:=Tryz.f277) (by kernel_rfl) (by kernel_rfl) (by kernel_rfl) SV) <|
 .cons (fG (fn:=Tryz.f148) (by kernel_rfl) (by kernel_rfl) (by kernel_rfl) TE) <|
 .cons (O5 (fG (fn:=Tryz.f223) (by kernel_rfl) (by kernel_rfl) (by kernel_rfl) SX)) <|
 .nil
def D:bA:=Gu tab hooks
theorem good:Df Tryz.prog D:=uP (by kernel_rfl) Ou Ak
end Go.Dm.Tc
