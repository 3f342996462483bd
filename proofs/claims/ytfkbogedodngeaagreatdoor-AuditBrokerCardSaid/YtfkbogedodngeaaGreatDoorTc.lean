/- A part of the proof. -/
import Derived.Test.YtfkbogedodngeaaGreatDoorTc0
import Derived.Test.YtfkbogedodngeaaGreatDoorTc1
import Derived.Test.YtfkbogedodngeaaGreatDoorTc2
import Derived.Test.YtfkbogedodngeaaGreatDoorTc3
import Derived.Test.YtfkbogedodngeaaGreatDoorAsD
import Derived.Test.YtfkbogedodngeaaGreatDoorSorts
namespace Go.Dm.Tc
open Go.Proofs
def tab:List (Nat×aS):=[(4,t4),(9,t9),(10,t10),(15,t15),(16,t16),(17,t17),(18,t18),(20,t20),(21,t21),(22,t22),(24,t24),(26,t26),(27,t27),(30,t30),(31,t31),(39,t39),(40,t40),(42,t42),(43,t43),(44,t44),(45,t45),(46,t46),(47,t47),(49,t49),(63,t63),(64,t64),(66,t66),(67,t67),(68,t68),(69,t69),(70,t70),(72,t72),(73,t73),(74,t74),(75,t75),(76,t76),(80,t80),(81,t81),(82,t82),(86,t86),(87,t87),(100,ZZ),(101,ZY),(103,Hh),(104,Cv),(105,wA),(106,ZX),(112,Ue),(113,BN),(114,zI),(115,BM),(116,D5),(117,Pz),(118,HO),(119,D3),(120,D2),(121,BL),(122,ZW),(125,BK),(143,ZV),(144,BJ),(145,BI),(146,BH),(147,BG),(148,BF),(149,BE),(150,BD),(151,BC),(152,BB),(153,BA),(154,AZ),(155,AY),(156,AX),(157,AW),(158,D0),(159,AV),(160,AU),(161,Cu),(162,AT),(163,AS),(164,AR),(165,ZU),(166,ZT),(167,ZS),(168,ZR),(169,ZQ),(171,ZN),(172,ZM),(179,AQ),(183,AP),(184,AO),(190,ZK),(193,Ct),(195,AN),(196,Ud),(197,AM),(198,AL),(199,Ph),(200,AK),(201,Kx),(202,ZJ),(203,yH),(204,AJ),(219,AI),(220,AH),(221,AG),(222,AF),(223,AE),(224,AD),(225,AC),(226,AB),(227,ZI),(257,yG),(258,B6),(259,Ot),(276,AA),(277,Z9),(278,Fe),(279,ZF),(302,On),(308,B2),(309,Fd),(314,Z8),(315,Z7),(332,B1)]
set_option maxRecDepth 100000 in
theorem A9:Fc Tryz.prog tab :=
 .cons (by kernel_rfl) c4<|
 .cons (by kernel_rfl) c9<|
 .cons (by kernel_rfl) c10<|
 .cons (by kernel_rfl) c15<|
 .cons (by kernel_rfl) c16<|
 .cons (by kernel_rfl) c17<|
 .cons (by kernel_rfl) c18<|
 .cons (by kernel_rfl) c20<|
 .cons (by kernel_rfl) c21<|
 .cons (by kernel_rfl) c22<|
 .cons (by kernel_rfl) c24<|
 .cons (by kernel_rfl) c26<|
 .cons (by kernel_rfl) c27<|
 .cons (by kernel_rfl) c30<|
 .cons (by kernel_rfl) c31<|
 .cons (by kernel_rfl) c39<|
 .cons (by kernel_rfl) c40<|
 .cons (by kernel_rfl) c42<|
 .cons (by kernel_rfl) c43<|
 .cons (by kernel_rfl) c44<|
 .cons (by kernel_rfl) c45<|
 .cons (by kernel_rfl) c46<|
 .cons (by kernel_rfl) c47<|
 .cons (by kernel_rfl) c49<|
 .cons (by kernel_rfl) c63<|
 .cons (by kernel_rfl) c64<|
 .cons (by kernel_rfl) c66<|
 .cons (by kernel_rfl) c67<|
 .cons (by kernel_rfl) c68<|
 .cons (by kernel_rfl) c69<|
 .cons (by kernel_rfl) c70<|
 .cons (by kernel_rfl) c72<|
 .cons (by kernel_rfl) c73<|
 .cons (by kernel_rfl) c74<|
 .cons (by kernel_rfl) c75<|
 .cons (by kernel_rfl) c76<|
 .cons (by kernel_rfl) c80<|
 .cons (by kernel_rfl) c81<|
 .cons (by kernel_rfl) c82<|
 .cons (by kernel_rfl) c86<|
 .cons (by kernel_rfl) c87<|
 .cons (by kernel_rfl) c100<|
 .cons (by kernel_rfl) c101<|
 .cons (by kernel_rfl) YD<|
 .cons (by kernel_rfl) YC<|
 .cons (by kernel_rfl) YB<|
 .cons (by kernel_rfl) c106<|
 .cons (by kernel_rfl) c112<|
 .cons (by kernel_rfl) c113<|
 .cons (by kernel_rfl) c114<|
 .cons (by kernel_rfl) c115<|
 .cons (by kernel_rfl) c116<|
 .cons (by kernel_rfl) c117<|
 .cons (by kernel_rfl) c118<|
 .cons (by kernel_rfl) c119<|
 .cons (by kernel_rfl) c120<|
 .cons (by kernel_rfl) c121<|
 .cons (by kernel_rfl) c122<|
 .cons (by kernel_rfl) c125<|
 .cons (by kernel_rfl) c143<|
 .cons (by kernel_rfl) c144<|
 .cons (by kernel_rfl) c145<|
 .cons (by kernel_rfl) c146<|
 .cons (by kernel_rfl) c147<|
 .cons (by kernel_rfl) c148<|
 .cons (by kernel_rfl) c149<|
 .cons (by kernel_rfl) c150<|
 .cons (by kernel_rfl) c151<|
 .cons (by kernel_rfl) c152<|
 .cons (by kernel_rfl) c153<|
 .cons (by kernel_rfl) c154<|
 .cons (by kernel_rfl) c155<|
 .cons (by kernel_rfl) c156<|
 .cons (by kernel_rfl) c157<|
 .cons (by kernel_rfl) c158<|
 .cons (by kernel_rfl) c159<|
 .cons (by kernel_rfl) c160<|
 .cons (by kernel_rfl) c161<|
 .cons (by kernel_rfl) c162<|
 .cons (by kernel_rfl) c163<|
 .cons (by kernel_rfl) c164<|
 .cons (by kernel_rfl) c165<|
 .cons (by kernel_rfl) c166<|
 .cons (by kernel_rfl) c167<|
 .cons (by kernel_rfl) c168<|
 .cons (by kernel_rfl) c169<|
 .cons (by kernel_rfl) c171<|
 .cons (by kernel_rfl) c172<|
 .cons (by kernel_rfl) c179<|
 .cons (by kernel_rfl) c183<|
 .cons (by kernel_rfl) c184<|
 .cons (by kernel_rfl) c190<|
 .cons (by kernel_rfl) YA<|
 .cons (by kernel_rfl) c195<|
 .cons (by kernel_rfl) c196<|
 .cons (by kernel_rfl) c197<|
 .cons (by kernel_rfl) c198<|
 .cons (by kernel_rfl) c199<|
 .cons (by kernel_rfl) c200<|
 .cons (by kernel_rfl) c201<|
 .cons (by kernel_rfl) c202<|
 .cons (by kernel_rfl) c203<|
 .cons (by kernel_rfl) c204<|
 .cons (by kernel_rfl) c219<|
 .cons (by kernel_rfl) c220<|
 .cons (by kernel_rfl) c221<|
 .cons (by kernel_rfl) c222<|
 .cons (by kernel_rfl) c223<|
 .cons (by kernel_rfl) c224<|
 .cons (by kernel_rfl) c225<|
 .cons (by kernel_rfl) c226<|
 .cons (by kernel_rfl) c227<|
 .cons (by kernel_rfl) c257<|
 .cons (by kernel_rfl) c258<|
 .cons (by kernel_rfl) c259<|
 .cons (by kernel_rfl) c276<|
 .cons (by kernel_rfl) c277<|
 .cons (by kernel_rfl) c278<|
 .cons (by kernel_rfl) c279<|
 .cons (by kernel_rfl) c302<|
 .cons (by kernel_rfl) c308<|
 .cons (by kernel_rfl) c309<|
 .cons (by kernel_rfl) c314<|
 .cons (by kernel_rfl) c315<|
 .cons (by kernel_rfl) c332<|
 .nil
def w8:kA Tryz.prog Tryz.f180 49 7 88 (.agg [(.int .i64 0),(.int .i64 0),(.int .i64 0),(.int .i64 0),(.int .i64 0),.nsl,.nsl]) :=
 ⟨_,_,_,_,_,_,_,_,_,84,84,49,rfl,by kernel_rfl,by kernel_rfl,rfl,rfl,rfl,by kernel_rfl,by kernel_rfl,by kernel_rfl,rfl,rfl⟩
def cl93:kA Tryz.prog Tryz.f93 180 4 32 (.agg [(.int .i64 0),(.int .i64 0),(.int .i64 0),(.int .i64 0)]) :=
 ⟨_,_,_,_,_,_,_,_,_,95,95,180,rfl,by kernel_rfl,by kernel_rfl,rfl,rfl,rfl,by kernel_rfl,by kernel_rfl,by kernel_rfl,rfl,rfl⟩
def cl99:kA Tryz.prog Tryz.f99 37 6 128 (.agg [(.int .i64 0),.nsl,.nsl,.nsl,.nsl,.nsl]) :=
 ⟨_,_,_,_,_,_,_,_,_,160,160,37,rfl,by kernel_rfl,by kernel_rfl,rfl,rfl,rfl,by kernel_rfl,by kernel_rfl,by kernel_rfl,rfl,rfl⟩
def w9:kA Tryz.prog Tryz.f173 86 2 16 (.agg [(.int .i64 0),(.int .i64 0)]) :=
 ⟨_,_,_,_,_,_,_,_,_,74,74,86,rfl,by kernel_rfl,by kernel_rfl,rfl,rfl,rfl,by kernel_rfl,by kernel_rfl,by kernel_rfl,rfl,rfl⟩
def cl92:kA Tryz.prog Tryz.f92 134 3 40 (.agg [(.int .i64 0),(.int .i64 0),.nsl]) :=
 ⟨_,_,_,_,_,_,_,_,_,35,35,134,rfl,by kernel_rfl,by kernel_rfl,rfl,rfl,rfl,by kernel_rfl,by kernel_rfl,by kernel_rfl,rfl,rfl⟩
def cl91:kA Tryz.prog Tryz.f91 70 7 72 (.agg [(.int .i64 0),(.int .i64 0),(.int .i64 0),(.int .i64 0),.nsl,(.int .i64 0),(.bool false)]) :=
 ⟨_,_,_,_,_,_,_,_,_,34,34,70,rfl,by kernel_rfl,by kernel_rfl,rfl,rfl,rfl,by kernel_rfl,by kernel_rfl,by kernel_rfl,rfl,rfl⟩
def cl90:kA Tryz.prog Tryz.f90 45 2 16 (.agg [(.int .i64 0),(.int .i64 0)]) :=
 ⟨_,_,_,_,_,_,_,_,_,33,33,45,rfl,by kernel_rfl,by kernel_rfl,rfl,rfl,rfl,by kernel_rfl,by kernel_rfl,by kernel_rfl,rfl,rfl⟩
def cl89:kA Tryz.prog Tryz.f89 68 4 48 (.agg [(.int .i64 0),(.int .i64 0),.nsl,(.int .i64 0)]) :=
 ⟨_,_,_,_,_,_,_,_,_,32,32,68,rfl,by kernel_rfl,by kernel_rfl,rfl,rfl,rfl,by kernel_rfl,by kernel_rfl,by kernel_rfl,rfl,rfl⟩
def cl88:kA Tryz.prog Tryz.f88 3 1 8 (.int .i64 0) :=
 ⟨_,_,_,_,_,_,_,_,_,25,25,3,rfl,by kernel_rfl,by kernel_rfl,rfl,rfl,rfl,by kernel_rfl,by kernel_rfl,by kernel_rfl,rfl,rfl⟩
def hooks:List (Nat×rT):=[(142,sW),(102,qJ 103),(62,Go.Proofs.YtfkbogedodngeaaGreatDoor.Err.asHook),(180,uR 49 7 88),(93,eK 180 4 32),(99,eK 37 6 128),(173,uR 86 2 16),(92,eK 134 3 40),(91,eK 70 7 72),(90,eK 45 2 16),(89,eK 68 4 48),(88,eK 3 1 8)]
theorem Jd:sK Tryz.prog hooks :=
 .cons Sorts.s142_ok <|
 .cons Sorts.s102_ok <|
 .cons Go.Proofs.YtfkbogedodngeaaGreatDoor.Err.asHookOk <|
 .cons (KW (nJ (fn:=Tryz.f180) (by kernel_rfl) (by kernel_rfl) (by kernel_rfl) w8)) <|
 .cons (nJ (fn:=Tryz.f93) (by kernel_rfl) (by kernel_rfl) (by kernel_rfl) cl93) <|
 .cons (nJ (fn:=Tryz.f99) (by kernel_rfl) (by kernel_rfl) (by kernel_rfl) cl99) <|
 .cons (KW (nJ (fn:=Tryz.f173) (by kernel_rfl) (by kernel_rfl) (by kernel_rfl) w9)) <|
 .cons (nJ (fn:=Tryz.f92) (by kernel_rfl) (by kernel_rfl) (by kernel_rfl) cl92) <|
 .cons (nJ (fn:=Tryz.f91) (by kernel_rfl) (by kernel_rfl) (by kernel_rfl) cl91) <|
 .cons (nJ (fn:=Tryz.f90) (by kernel_rfl) (by kernel_rfl) (by kernel_rfl) cl90) <|
 .cons (nJ (fn:=Tryz.f89) (by kernel_rfl) (by kernel_rfl) (by kernel_rfl) cl89) <|
 .cons (nJ (fn:=Tryz.f88) (by kernel_rfl) (by kernel_rfl) (by kernel_rfl) cl88) <|
 .nil
def D:cL:=Rv tab hooks
theorem good:Mm Tryz.prog D:=Bo (by kernel_rfl) A9 Jd
end Go.Dm.Tc
