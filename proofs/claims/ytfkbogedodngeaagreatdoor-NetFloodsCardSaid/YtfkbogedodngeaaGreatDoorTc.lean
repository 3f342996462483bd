/- A part of the proof. -/
import Derived.Test.YtfkbogedodngeaaGreatDoorTc0
import Derived.Test.YtfkbogedodngeaaGreatDoorTc1
import Derived.Test.YtfkbogedodngeaaGreatDoorTc2
import Derived.Test.YtfkbogedodngeaaGreatDoorTc3
import Derived.Test.YtfkbogedodngeaaGreatDoorAsD
import Derived.Test.YtfkbogedodngeaaGreatDoorSorts
namespace Go.Dm.Tc
open Go.Proofs
def tab:List (Nat×aK):=[(5,t5),(10,t10),(15,t15),(16,t16),(17,t17),(23,t23),(24,t24),(25,t25),(26,t26),(27,t27),(28,t28),(29,t29),(30,t30),(31,t31),(32,t32),(33,t33),(34,t34),(40,t40),(49,t49),(52,t52),(63,t63),(64,t64),(71,t71),(72,t72),(73,t73),(74,t74),(75,t75),(76,t76),(77,t77),(78,t78),(79,t79),(80,t80),(81,t81),(82,t82),(83,t83),(84,t84),(85,t85),(86,t86),(87,t87),(97,t97),(101,Np),(103,Fk),(104,Bg),(105,uJ),(106,Rx),(134,Yg),(135,a6),(136,ZZ),(143,Nn),(147,ZY),(154,W8),(159,ZX),(164,ZW),(171,Ye),(172,FH),(174,W7),(175,FF),(176,ZT),(177,ZS),(178,ZR),(179,W6),(181,ZO),(182,FE),(183,W5),(184,W4),(187,ZN),(188,ZM),(189,ZK),(190,W2),(193,Bf),(203,ZJ),(204,ZI),(213,V9),(214,ZH),(220,V8),(222,V7),(224,ZG),(225,ZF),(226,ZE),(233,FD),(234,xU),(235,xS),(236,ZD),(237,ZC),(238,TL),(239,FC),(240,V6),(245,ZB),(246,ZA),(263,V5),(264,V4),(265,V3),(266,YZ),(276,V2),(278,YY),(289,YX),(291,YW),(292,YV),(293,YU),(294,YT),(295,YS),(297,YR),(298,V1),(299,Xv),(301,YQ),(302,YP),(310,YO),(314,YN),(315,YM),(319,YL),(320,YK),(321,YJ),(322,YI),(323,YH),(324,YG),(325,SU),(326,YF),(327,YE),(328,V0),(332,YD),(333,YC),(334,YB),(335,YA),(337,XZ),(338,XY),(340,XX),(341,XW)]
set_option maxRecDepth 100000 in
theorem Xt:Dz Tryz.prog tab :=
 .cons (by kernel_rfl) c5<|
 .cons (by kernel_rfl) c10<|
 .cons (by kernel_rfl) c15<|
 .cons (by kernel_rfl) c16<|
 .cons (by kernel_rfl) c17<|
 .cons (by kernel_rfl) c23<|
 .cons (by kernel_rfl) c24<|
 .cons (by kernel_rfl) c25<|
 .cons (by kernel_rfl) c26<|
 .cons (by kernel_rfl) c27<|
 .cons (by kernel_rfl) c28<|
 .cons (by kernel_rfl) c29<|
 .cons (by kernel_rfl) c30<|
 .cons (by kernel_rfl) c31<|
 .cons (by kernel_rfl) c32<|
 .cons (by kernel_rfl) c33<|
 .cons (by kernel_rfl) c34<|
 .cons (by kernel_rfl) c40<|
 .cons (by kernel_rfl) c49<|
 .cons (by kernel_rfl) c52<|
 .cons (by kernel_rfl) c63<|
 .cons (by kernel_rfl) c64<|
 .cons (by kernel_rfl) c71<|
 .cons (by kernel_rfl) c72<|
 .cons (by kernel_rfl) c73<|
 .cons (by kernel_rfl) c74<|
 .cons (by kernel_rfl) c75<|
 .cons (by kernel_rfl) c76<|
 .cons (by kernel_rfl) c77<|
 .cons (by kernel_rfl) c78<|
 .cons (by kernel_rfl) c79<|
 .cons (by kernel_rfl) c80<|
 .cons (by kernel_rfl) c81<|
 .cons (by kernel_rfl) c82<|
 .cons (by kernel_rfl) c83<|
 .cons (by kernel_rfl) c84<|
 .cons (by kernel_rfl) c85<|
 .cons (by kernel_rfl) c86<|
 .cons (by kernel_rfl) c87<|
 .cons (by kernel_rfl) c97<|
 .cons (by kernel_rfl) c101<|
 .cons (by kernel_rfl) WY<|
 .cons (by kernel_rfl) WX<|
 .cons (by kernel_rfl) WW<|
 .cons (by kernel_rfl) c106<|
 .cons (by kernel_rfl) c134<|
 .cons (by kernel_rfl) c135<|
 .cons (by kernel_rfl) c136<|
 .cons (by kernel_rfl) c143<|
 .cons (by kernel_rfl) c147<|
 .cons (by kernel_rfl) c154<|
 .cons (by kernel_rfl) c159<|
 .cons (by kernel_rfl) c164<|
 .cons (by kernel_rfl) c171<|
 .cons (by kernel_rfl) c172<|
 .cons (by kernel_rfl) c174<|
 .cons (by kernel_rfl) c175<|
 .cons (by kernel_rfl) c176<|
 .cons (by kernel_rfl) c177<|
 .cons (by kernel_rfl) c178<|
 .cons (by kernel_rfl) c179<|
 .cons (by kernel_rfl) c181<|
 .cons (by kernel_rfl) c182<|
 .cons (by kernel_rfl) c183<|
 .cons (by kernel_rfl) c184<|
 .cons (by kernel_rfl) c187<|
 .cons (by kernel_rfl) c188<|
 .cons (by kernel_rfl) c189<|
 .cons (by kernel_rfl) c190<|
 .cons (by kernel_rfl) WV<|
 .cons (by kernel_rfl) c203<|
 .cons (by kernel_rfl) c204<|
 .cons (by kernel_rfl) c213<|
 .cons (by kernel_rfl) c214<|
 .cons (by kernel_rfl) c220<|
 .cons (by kernel_rfl) c222<|
 .cons (by kernel_rfl) c224<|
 .cons (by kernel_rfl) c225<|
 .cons (by kernel_rfl) c226<|
 .cons (by kernel_rfl) c233<|
 .cons (by kernel_rfl) c234<|
 .cons (by kernel_rfl) c235<|
 .cons (by kernel_rfl) c236<|
 .cons (by kernel_rfl) c237<|
 .cons (by kernel_rfl) c238<|
 .cons (by kernel_rfl) c239<|
 .cons (by kernel_rfl) c240<|
 .cons (by kernel_rfl) c245<|
 .cons (by kernel_rfl) c246<|
 .cons (by kernel_rfl) c263<|
 .cons (by kernel_rfl) c264<|
 .cons (by kernel_rfl) c265<|
 .cons (by kernel_rfl) c266<|
 .cons (by kernel_rfl) c276<|
 .cons (by kernel_rfl) c278<|
 .cons (by kernel_rfl) c289<|
 .cons (by kernel_rfl) c291<|
 .cons (by kernel_rfl) c292<|
 .cons (by kernel_rfl) c293<|
 .cons (by kernel_rfl) c294<|
 .cons (by kernel_rfl) c295<|
 .cons (by kernel_rfl) c297<|
 .cons (by kernel_rfl) c298<|
 .cons (by kernel_rfl) c299<|
 .cons (by kernel_rfl) c301<|
 .cons (by kernel_rfl) c302<|
 .cons (by kernel_rfl) c310<|
 .cons (by kernel_rfl) c314<|
 .cons (by kernel_rfl) c315<|
 .cons (by kernel_rfl) c319<|
 .cons (by kernel_rfl) c320<|
 .cons (by kernel_rfl) c321<|
 .cons (by kernel_rfl) c322<|
 .cons (by kernel_rfl) c323<|
 .cons (by kernel_rfl) c324<|
 .cons (by kernel_rfl) c325<|
 .cons (by kernel_rfl) c326<|
 .cons (by kernel_rfl) c327<|
 .cons (by kernel_rfl) c328<|
 .cons (by kernel_rfl) c332<|
 .cons (by kernel_rfl) c333<|
 .cons (by kernel_rfl) c334<|
 .cons (by kernel_rfl) c335<|
 .cons (by kernel_rfl) c337<|
 .cons (by kernel_rfl) c338<|
 .cons (by kernel_rfl) c340<|
 .cons (by kernel_rfl) c341<|
 .nil
def u6:jR Tryz.prog Tryz.f180 49 7 88 (.agg [(.int .i64 0),(.int .i64 0),(.int .i64 0),(.int .i64 0),(.int .i64 0),.nsl,.nsl]) :=
 ⟨_,_,_,_,_,_,_,_,_,84,84,49,rfl,by kernel_rfl,by kernel_rfl,rfl,rfl,rfl,by kernel_rfl,by kernel_rfl,by kernel_rfl,rfl,rfl⟩
def u7:jR Tryz.prog Tryz.f173 86 2 16 (.agg [(.int .i64 0),(.int .i64 0)]) :=
 ⟨_,_,_,_,_,_,_,_,_,74,74,86,rfl,by kernel_rfl,by kernel_rfl,rfl,rfl,rfl,by kernel_rfl,by kernel_rfl,by kernel_rfl,rfl,rfl⟩
def cl93:jR Tryz.prog Tryz.f93 180 4 32 (.agg [(.int .i64 0),(.int .i64 0),(.int .i64 0),(.int .i64 0)]) :=
 ⟨_,_,_,_,_,_,_,_,_,95,95,180,rfl,by kernel_rfl,by kernel_rfl,rfl,rfl,rfl,by kernel_rfl,by kernel_rfl,by kernel_rfl,rfl,rfl⟩
def cl92:jR Tryz.prog Tryz.f92 134 3 40 (.agg [(.int .i64 0),(.int .i64 0),.nsl]) :=
 ⟨_,_,_,_,_,_,_,_,_,35,35,134,rfl,by kernel_rfl,by kernel_rfl,rfl,rfl,rfl,by kernel_rfl,by kernel_rfl,by kernel_rfl,rfl,rfl⟩
def cl91:jR Tryz.prog Tryz.f91 70 7 72 (.agg [(.int .i64 0),(.int .i64 0),(.int .i64 0),(.int .i64 0),.nsl,(.int .i64 0),(.bool false)]) :=
 ⟨_,_,_,_,_,_,_,_,_,34,34,70,rfl,by kernel_rfl,by kernel_rfl,rfl,rfl,rfl,by kernel_rfl,by kernel_rfl,by kernel_rfl,rfl,rfl⟩
def cl90:jR Tryz.prog Tryz.f90 45 2 16 (.agg [(.int .i64 0),(.int .i64 0)]) :=
 ⟨_,_,_,_,_,_,_,_,_,33,33,45,rfl,by kernel_rfl,by kernel_rfl,rfl,rfl,rfl,by kernel_rfl,by kernel_rfl,by kernel_rfl,rfl,rfl⟩
def cl89:jR Tryz.prog Tryz.f89 68 4 48 (.agg [(.int .i64 0),(.int .i64 0),.nsl,(.int .i64 0)]) :=
 ⟨_,_,_,_,_,_,_,_,_,32,32,68,rfl,by kernel_rfl,by kernel_rfl,rfl,rfl,rfl,by kernel_rfl,by kernel_rfl,by kernel_rfl,rfl,rfl⟩
def cl88:jR Tryz.prog Tryz.f88 3 1 8 (.int .i64 0) :=
 ⟨_,_,_,_,_,_,_,_,_,25,25,3,rfl,by kernel_rfl,by kernel_rfl,rfl,rfl,rfl,by kernel_rfl,by kernel_rfl,by kernel_rfl,rfl,rfl⟩
def hooks:List (Nat×qA):=[(336,dM),(296,dM),(290,dM),(288,dM),(339,nL),(142,rO),(102,oU 103),(62,Go.Proofs.YtfkbogedodngeaaGreatDoor.Err.asHook),(180,jI 49 7 88),(173,jI 86 2 16),(93,bJ 180 4 32),(92,bJ 134 3 40),(91,bJ 70 7 72),(90,bJ 45 2 16),(89,bJ 68 4 48),(88,bJ 3 1 8)]
theorem Hb:qT Tryz.prog hooks :=
 .cons (qF (fn:=Tryz.f336) (tS:=46) (tR:=4) (e:=94) (by kernel_rfl) (by kernel_rfl) (by kernel_rfl) (by kernel_rfl) (by kernel_rfl) (by kernel_rfl) (by kernel_rfl)) <|
 .cons (qF (fn:=Tryz.f296) (tS:=34) (tR:=4) (e:=70) (by kernel_rfl) (by kernel_rfl) (by kernel_rfl) (by kernel_rfl) (by kernel_rfl) (by kernel_rfl) (by kernel_rfl)) <|
 .cons (qF (fn:=Tryz.f290) (tS:=33) (tR:=4) (e:=45) (by kernel_rfl) (by kernel_rfl) (by kernel_rfl) (by kernel_rfl) (by kernel_rfl) (by kernel_rfl) (by kernel_rfl)) <|
 .cons (qF (fn:=Tryz.f288) (tS:=32) (tR:=4) (e:=68) (by kernel_rfl) (by kernel_rfl) (by kernel_rfl) (by kernel_rfl) (by kernel_rfl) (by kernel_rfl) (by kernel_rfl)) <|
 .cons (J4 (fn:=Tryz.f339) (by kernel_rfl) (by kernel_rfl) (by kernel_rfl) (by kernel_rfl) (by kernel_rfl)) <|
 .cons Sorts.s142_ok <|
 .cons Sorts.s102_ok <|
 .cons Go.Proofs.YtfkbogedodngeaaGreatDoor.Err.asHookOk <|
 .cons (JB (nN (fn:=Tryz.f180) (by kernel_rfl) (by kernel_rfl) (by kernel_rfl) u6)) <|
 .cons (JB (nN (fn:=Tryz.f173) (by kernel_rfl) (by kernel_rfl) (by kernel_rfl) u7)) <|
 .cons (nN (fn:=Tryz.f93) (by kernel_rfl) (by kernel_rfl) (by kernel_rfl) cl93) <|
 .cons (nN (fn:=Tryz.f92) (by kernel_rfl) (by kernel_rfl) (by kernel_rfl) cl92) <|
 .cons (nN (fn:=Tryz.f91) (by kernel_rfl) (by kernel_rfl) (by kernel_rfl) cl91) <|
 .cons (nN (fn:=Tryz.f90) (by kernel_rfl) (by kernel_rfl) (by kernel_rfl) cl90) <|
 .cons (nN (fn:=Tryz.f89) (by kernel_rfl) (by kernel_rfl) (by kernel_rfl) cl89) <|
 .cons (nN (fn:=Tryz.f88) (by kernel_rfl) (by kernel_rfl) (by kernel_rfl) cl88) <|
 .nil
def D:bX:=Pr tab hooks
theorem good:Ks Tryz.prog D:=Ad (by kernel_rfl) Xt Hb
end Go.Dm.Tc
