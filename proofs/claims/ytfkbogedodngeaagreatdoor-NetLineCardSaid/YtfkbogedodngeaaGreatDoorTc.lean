/- A part of the proof. -/
import Derived.Test.YtfkbogedodngeaaGreatDoorTc0
import Derived.Test.YtfkbogedodngeaaGreatDoorTc1
import Derived.Test.YtfkbogedodngeaaGreatDoorTc2
import Derived.Test.YtfkbogedodngeaaGreatDoorTc3
import Derived.Test.YtfkbogedodngeaaGreatDoorAsD
import Derived.Test.YtfkbogedodngeaaGreatDoorSorts
namespace Go.Dm.Tc
open Go.Proofs
def tab:List (Nat×aL):=[(6,t6),(10,t10),(15,t15),(16,t16),(17,t17),(24,t24),(25,t25),(27,t27),(29,t29),(30,t30),(31,t31),(33,t33),(34,t34),(35,t35),(36,t36),(37,t37),(40,t40),(49,t49),(52,t52),(63,t63),(64,t64),(73,t73),(74,t74),(75,t75),(76,t76),(77,t77),(78,t78),(79,t79),(82,t82),(84,t84),(85,t85),(86,t86),(87,t87),(94,t94),(95,t95),(96,t96),(97,t97),(101,Nt),(103,Fw),(104,Ca),(105,uR),(106,Ry),(134,Yk),(135,k6),(136,j9),(143,Nr),(147,j8),(154,X9),(159,j7),(164,j6),(171,Yi),(172,FK),(174,X8),(175,FI),(176,i8),(177,i7),(178,i6),(181,d8),(182,FH),(183,X6),(184,X5),(185,d7),(186,UG),(187,d6),(188,d4),(189,c9),(190,X4),(193,Bz),(203,c8),(204,c7),(213,X3),(214,b9),(220,X1),(222,W9),(224,b6),(225,a9),(226,a8),(233,FG),(234,yJ),(235,yH),(236,a7),(237,ZZ),(238,TQ),(239,FF),(240,W8),(241,ZY),(242,ZX),(244,ZW),(245,ZV),(246,ZU),(263,W7),(264,W6),(265,W5),(266,ZT),(276,W4),(278,ZS),(289,ZR),(291,ZQ),(292,ZP),(293,ZO),(294,ZN),(295,ZM),(297,ZK),(298,W3),(299,Xz),(300,ZJ),(301,ZI),(302,ZH),(310,ZG),(314,ZF),(315,ZE),(319,ZD),(320,ZC),(321,ZB),(322,ZA),(323,YZ),(324,YY),(325,SX),(326,YX),(327,YW),(328,W2),(329,YV),(332,YU),(333,YT),(334,YS),(335,YR),(337,YQ),(338,YP),(340,YO),(341,YN)]
set_option maxRecDepth 100000 in
theorem Xx:Ej Tryz.prog tab :=
 .cons (by kernel_rfl) c6<|
 .cons (by kernel_rfl) c10<|
 .cons (by kernel_rfl) c15<|
 .cons (by kernel_rfl) c16<|
 .cons (by kernel_rfl) c17<|
 .cons (by kernel_rfl) c24<|
 .cons (by kernel_rfl) c25<|
 .cons (by kernel_rfl) c27<|
 .cons (by kernel_rfl) c29<|
 .cons (by kernel_rfl) c30<|
 .cons (by kernel_rfl) c31<|
 .cons (by kernel_rfl) c33<|
 .cons (by kernel_rfl) c34<|
 .cons (by kernel_rfl) c35<|
 .cons (by kernel_rfl) c36<|
 .cons (by kernel_rfl) c37<|
 .cons (by kernel_rfl) c40<|
 .cons (by kernel_rfl) c49<|
 .cons (by kernel_rfl) c52<|
 .cons (by kernel_rfl) c63<|
 .cons (by kernel_rfl) c64<|
 .cons (by kernel_rfl) c73<|
 .cons (by kernel_rfl) c74<|
 .cons (by kernel_rfl) c75<|
 .cons (by kernel_rfl) c76<|
 .cons (by kernel_rfl) c77<|
 .cons (by kernel_rfl) c78<|
 .cons (by kernel_rfl) c79<|
 .cons (by kernel_rfl) c82<|
 .cons (by kernel_rfl) c84<|
 .cons (by kernel_rfl) c85<|
 .cons (by kernel_rfl) c86<|
 .cons (by kernel_rfl) c87<|
 .cons (by kernel_rfl) c94<|
 .cons (by kernel_rfl) c95<|
 .cons (by kernel_rfl) c96<|
 .cons (by kernel_rfl) c97<|
 .cons (by kernel_rfl) c101<|
 .cons (by kernel_rfl) XN<|
 .cons (by kernel_rfl) XM<|
 .cons (by kernel_rfl) XL<|
 .cons (by kernel_rfl) c106<|
 .cons (by kernel_rfl) c134<|
 .cons (by kernel_rfl) c135<|
 .cons (by kernel_rfl) c136<|
 .cons (by kernel_rfl) c143<|
 .cons (by kernel_rfl) c147<|
 .cons (by kernel_rfl) c154<|
 .cons (by kernel_rfl) c159<|
 .cons (by kernel_rfl) c164<|
 .cons (by kernel_rfl) c171<|
 .cons (by kernel_rfl) c172<|
 .cons (by kernel_rfl) c174<|
 .cons (by kernel_rfl) c175<|
 .cons (by kernel_rfl) c176<|
 .cons (by kernel_rfl) c177<|
 .cons (by kernel_rfl) c178<|
 .cons (by kernel_rfl) c181<|
 .cons (by kernel_rfl) c182<|
 .cons (by kernel_rfl) c183<|
 .cons (by kernel_rfl) c184<|
 .cons (by kernel_rfl) c185<|
 .cons (by kernel_rfl) c186<|
 .cons (by kernel_rfl) c187<|
 .cons (by kernel_rfl) c188<|
 .cons (by kernel_rfl) c189<|
 .cons (by kernel_rfl) c190<|
 .cons (by kernel_rfl) XK<|
 .cons (by kernel_rfl) c203<|
 .cons (by kernel_rfl) c204<|
 .cons (by kernel_rfl) c213<|
 .cons (by kernel_rfl) c214<|
 .cons (by kernel_rfl) c220<|
 .cons (by kernel_rfl) c222<|
 .cons (by kernel_rfl) c224<|
 .cons (by kernel_rfl) c225<|
 .cons (by kernel_rfl) c226<|
 .cons (by kernel_rfl) c233<|
 .cons (by kernel_rfl) c234<|
 .cons (by kernel_rfl) c235<|
 .cons (by kernel_rfl) c236<|
 .cons (by kernel_rfl) c237<|
 .cons (by kernel_rfl) c238<|
 .cons (by kernel_rfl) c239<|
 .cons (by kernel_rfl) c240<|
 .cons (by kernel_rfl) c241<|
 .cons (by kernel_rfl) c242<|
 .cons (by kernel_rfl) c244<|
 .cons (by kernel_rfl) c245<|
 .cons (by kernel_rfl) c246<|
 .cons (by kernel_rfl) c263<|
 .cons (by kernel_rfl) c264<|
 .cons (by kernel_rfl) c265<|
 .cons (by kernel_rfl) c266<|
 .cons (by kernel_rfl) c276<|
 .cons (by kernel_rfl) c278<|
 .cons (by kernel_rfl) c289<|
 .cons (by kernel_rfl) c291<|
 .cons (by kernel_rfl) c292<|
 .cons (by kernel_rfl) c293<|
 .cons (by kernel_rfl) c294<|
 .cons (by kernel_rfl) c295<|
 .cons (by kernel_rfl) c297<|
 .cons (by kernel_rfl) c298<|
 .cons (by kernel_rfl) c299<|
 .cons (by kernel_rfl) c300<|
 .cons (by kernel_rfl) c301<|
 .cons (by kernel_rfl) c302<|
 .cons (by kernel_rfl) c310<|
 .cons (by kernel_rfl) c314<|
 .cons (by kernel_rfl) c315<|
 .cons (by kernel_rfl) c319<|
 .cons (by kernel_rfl) c320<|
 .cons (by kernel_rfl) c321<|
 .cons (by kernel_rfl) c322<|
 .cons (by kernel_rfl) c323<|
 .cons (by kernel_rfl) c324<|
 .cons (by kernel_rfl) c325<|
 .cons (by kernel_rfl) c326<|
 .cons (by kernel_rfl) c327<|
 .cons (by kernel_rfl) c328<|
 .cons (by kernel_rfl) c329<|
 .cons (by kernel_rfl) c332<|
 .cons (by kernel_rfl) c333<|
 .cons (by kernel_rfl) c334<|
 .cons (by kernel_rfl) c335<|
 .cons (by kernel_rfl) c337<|
 .cons (by kernel_rfl) c338<|
 .cons (by kernel_rfl) c340<|
 .cons (by kernel_rfl) c341<|
 .nil
def cl92:kW Tryz.prog Tryz.f92 134 3 40 (.agg [(.int .i64 0),(.int .i64 0),.nsl]) :=
 ⟨_,_,_,_,_,_,_,_,_,35,35,134,rfl,by kernel_rfl,by kernel_rfl,rfl,rfl,rfl,by kernel_rfl,by kernel_rfl,by kernel_rfl,rfl,rfl⟩
def cl91:kW Tryz.prog Tryz.f91 70 7 72 (.agg [(.int .i64 0),(.int .i64 0),(.int .i64 0),(.int .i64 0),.nsl,(.int .i64 0),(.bool false)]) :=
 ⟨_,_,_,_,_,_,_,_,_,34,34,70,rfl,by kernel_rfl,by kernel_rfl,rfl,rfl,rfl,by kernel_rfl,by kernel_rfl,by kernel_rfl,rfl,rfl⟩
def cl90:kW Tryz.prog Tryz.f90 45 2 16 (.agg [(.int .i64 0),(.int .i64 0)]) :=
 ⟨_,_,_,_,_,_,_,_,_,33,33,45,rfl,by kernel_rfl,by kernel_rfl,rfl,rfl,rfl,by kernel_rfl,by kernel_rfl,by kernel_rfl,rfl,rfl⟩
def cl89:kW Tryz.prog Tryz.f89 68 4 48 (.agg [(.int .i64 0),(.int .i64 0),.nsl,(.int .i64 0)]) :=
 ⟨_,_,_,_,_,_,_,_,_,32,32,68,rfl,by kernel_rfl,by kernel_rfl,rfl,rfl,rfl,by kernel_rfl,by kernel_rfl,by kernel_rfl,rfl,rfl⟩
def cl88:kW Tryz.prog Tryz.f88 3 1 8 (.int .i64 0) :=
 ⟨_,_,_,_,_,_,_,_,_,25,25,3,rfl,by kernel_rfl,by kernel_rfl,rfl,rfl,rfl,by kernel_rfl,by kernel_rfl,by kernel_rfl,rfl,rfl⟩
def AaD:kW Tryz.prog Tryz.f173 86 2 16 (.agg [(.int .i64 0),(.int .i64 0)]) :=
 ⟨_,_,_,_,_,_,_,_,_,74,74,86,rfl,by kernel_rfl,by kernel_rfl,rfl,rfl,rfl,by kernel_rfl,by kernel_rfl,by kernel_rfl,rfl,rfl⟩
def cl93:kW Tryz.prog Tryz.f93 180 4 32 (.agg [(.int .i64 0),(.int .i64 0),(.int .i64 0),(.int .i64 0)]) :=
 ⟨_,_,_,_,_,_,_,_,_,95,95,180,rfl,by kernel_rfl,by kernel_rfl,rfl,rfl,rfl,by kernel_rfl,by kernel_rfl,by kernel_rfl,rfl,rfl⟩
def hooks:List (Nat×qJ):=[(336,cX),(296,cX),(290,cX),(288,cX),(243,cX),(339,nT),(142,rX),(102,pD 103),(62,Go.Proofs.YtfkbogedodngeaaGreatDoor.Err.asHook),(92,bW 134 3 40),(91,bW 70 7 72),(90,bW 45 2 16),(89,bW 68 4 48),(88,bW 3 1 8),(173,oY 86 2 16),(93,bW 180 4 32)]
theorem Hj:rB Tryz.prog hooks :=
 .cons (nL (fn:=Tryz.f336) (tS:=46) (tR:=4) (e:=94) (by kernel_rfl) (by kernel_rfl) (by kernel_rfl) (by kernel_rfl) (by kernel_rfl) (by kernel_rfl) (by kernel_rfl)) <|
 .cons (nL (fn:=Tryz.f296) (tS:=34) (tR:=4) (e:=70) (by kernel_rfl) (by kernel_rfl) (by kernel_rfl) (by kernel_rfl) (by kernel_rfl) (by kernel_rfl) (by kernel_rfl)) <|
 .cons (nL (fn:=Tryz.f290) (tS:=33) (tR:=4) (e:=45) (by kernel_rfl) (by kernel_rfl) (by kernel_rfl) (by kernel_rfl) (by kernel_rfl) (by kernel_rfl) (by kernel_rfl)) <|
 .cons (nL (fn:=Tryz.f288) (tS:=32) (tR:=4) (e:=68) (by kernel_rfl) (by kernel_rfl) (by kernel_rfl) (by kernel_rfl) (by kernel_rfl) (by kernel_rfl) (by kernel_rfl)) <|
 .cons (nL (fn:=Tryz.f243) (tS:=35) (tR:=4) (e:=134) (by kernel_rfl) (by kernel_rfl) (by kernel_rfl) (by kernel_rfl) (by kernel_rfl) (by kernel_rfl) (by kernel_rfl)) <|
 .cons (L6 (fn:=Tryz.f339) (by kernel_rfl) (by kernel_rfl) (by kernel_rfl) (by kernel_rfl) (by kernel_rfl)) <|
 .cons Sorts.s142_ok <|
 .cons Sorts.s102_ok <|
 .cons Go.Proofs.YtfkbogedodngeaaGreatDoor.Err.asHookOk <|
 .cons (qB (fn:=Tryz.f92) (by kernel_rfl) (by kernel_rfl) (by kernel_rfl) cl92) <|
 .cons (qB (fn:=Tryz.f91) (by kernel_rfl) (by kernel_rfl) (by kernel_rfl) cl91) <|
 .cons (qB (fn:=Tryz.f90) (by kernel_rfl) (by kernel_rfl) (by kernel_rfl) cl90) <|
 .cons (qB (fn:=Tryz.f89) (by kernel_rfl) (by kernel_rfl) (by kernel_rfl) cl89) <|
 .cons (qB (fn:=Tryz.f88) (by kernel_rfl) (by kernel_rfl) (by kernel_rfl) cl88) <|
 .cons (VX (qB (fn:=Tryz.f173) (by kernel_rfl) (by kernel_rfl) (by kernel_rfl) AaD)) <|
 .cons (qB (fn:=Tryz.f93) (by kernel_rfl) (by kernel_rfl) (by kernel_rfl) cl93) <|
 .nil
def D:bU:=Px tab hooks
theorem good:La Tryz.prog D:=At (by kernel_rfl) Xx Hj
end Go.Dm.Tc
