/- A part of the proof. -/
import Derived.Test.YtegofjiikhlokaaGreatDoorTc0
import Derived.Test.YtegofjiikhlokaaGreatDoorTc1
import Derived.Test.YtegofjiikhlokaaGreatDoorTc2
import Derived.Test.YtegofjiikhlokaaGreatDoorTc3
import Derived.Test.YtegofjiikhlokaaGreatDoorTc4
import Derived.Test.YtegofjiikhlokaaGreatDoorTc5
import Derived.Test.YtegofjiikhlokaaGreatDoorAsD
namespace Go.Dm.Tc
open Go.Proofs
def tab:List (Nat×aQ):=[(4,t4),(7,t7),(8,t8),(9,t9),(10,t10),(12,t12),(13,t13),(14,t14),(15,t15),(16,t16),(18,t18),(19,t19),(20,t20),(21,t21),(22,t22),(23,t23),(24,t24),(27,t27),(28,t28),(29,t29),(30,t30),(31,t31),(32,t32),(33,t33),(34,t34),(35,t35),(36,t36),(37,t37),(41,t41),(42,t42),(43,t43),(44,t44),(45,t45),(46,t46),(47,t47),(48,t48),(49,t49),(50,t50),(51,t51),(52,t52),(53,t53),(54,t54),(55,t55),(56,t56),(58,t58),(59,t59),(60,t60),(61,t61),(62,t62),(63,t63),(64,t64),(65,t65),(66,t66),(70,t70),(77,t77),(78,t78),(83,t83),(84,t84),(89,t89),(90,t90),(91,t91),(92,t92),(93,t93),(94,t94),(95,t95),(96,t96),(97,t97),(98,t98),(99,t99),(100,KR),(101,L3),(102,We),(103,KQ),(104,DX),(105,K8),(106,DW),(107,Wd),(108,K7),(109,K6),(110,DU),(111,DT),(113,K0),(114,J9),(115,J7),(116,t116),(117,t117),(118,t118),(119,t119),(120,t120),(121,t121),(126,Mv),(127,Wc),(128,t128),(129,t129),(130,t130),(131,t131),(132,t132),(133,t133),(134,Wa),(136,DS),(138,zD),(139,DR),(141,DQ),(142,J3),(143,DP),(144,DN),(145,DM),(146,DL),(147,DK),(148,DJ),(149,Qu),(150,DI),(151,KM),(152,Aj),(153,Ai),(154,DH),(156,DG),(157,Ah),(158,DF),(159,DE),(160,DD),(161,I7),(162,Qr),(163,I5),(164,I4),(165,KL),(166,DC),(167,t167),(168,t168),(173,Qn),(174,t174),(175,t175),(176,t176),(177,DB),(178,DA),(180,CZ),(181,CY),(182,Gy),(183,zC),(184,H8),(189,t189),(191,t191),(192,CX),(193,CW),(194,CV),(195,Vz),(197,t197),(198,CU),(199,CT),(200,Ae),(201,G7),(202,t202),(203,t203),(204,t204),(205,t205),(206,t206),(207,CS),(208,t208),(209,t209),(210,t210),(211,t211),(212,G6),(213,CR),(214,CQ),(215,Gx),(216,t216),(217,t217),(218,CP),(219,CO),(220,CN),(221,zA),(222,Ad),(223,CM),(224,t224),(225,t225),(226,t226),(227,t227),(228,t228),(229,t229),(230,G4),(231,t231),(232,t232),(233,CL),(235,t235),(236,t236),(237,t237),(239,t239),(240,t240)]
set_option maxRecDepth 100000 in
theorem XB:Mq Tryz.prog tab :=
 .cons (by kernel_rfl) c4<|
 .cons (by kernel_rfl) c7<|
 .cons (by kernel_rfl) c8<|
 .cons (by kernel_rfl) c9<|
 .cons (by kernel_rfl) c10<|
 .cons (by kernel_rfl) c12<|
 .cons (by kernel_rfl) c13<|
 .cons (by kernel_rfl) c14<|
 .cons (by kernel_rfl) c15<|
 .cons (by kernel_rfl) c16<|
 .cons (by kernel_rfl) c18<|
 .cons (by kernel_rfl) c19<|
 .cons (by kernel_rfl) c20<|
 .cons (by kernel_rfl) c21<|
 .cons (by kernel_rfl) c22<|
 .cons (by kernel_rfl) c23<|
 .cons (by kernel_rfl) c24<|
 .cons (by kernel_rfl) c27<|
 .cons (by kernel_rfl) c28<|
 .cons (by kernel_rfl) c29<|
 .cons (by kernel_rfl) c30<|
 .cons (by kernel_rfl) c31<|
 .cons (by kernel_rfl) c32<|
 .cons (by kernel_rfl) c33<|
 .cons (by kernel_rfl) c34<|
 .cons (by kernel_rfl) c35<|
 .cons (by kernel_rfl) c36<|
 .cons (by kernel_rfl) c37<|
 .cons (by kernel_rfl) c41<|
 .cons (by kernel_rfl) c42<|
 .cons (by kernel_rfl) c43<|
 .cons (by kernel_rfl) c44<|
 .cons (by kernel_rfl) c45<|
 .cons (by kernel_rfl) c46<|
 .cons (by kernel_rfl) c47<|
 .cons (by kernel_rfl) c48<|
 .cons (by kernel_rfl) c49<|
 .cons (by kernel_rfl) c50<|
 .cons (by kernel_rfl) c51<|
 .cons (by kernel_rfl) c52<|
 .cons (by kernel_rfl) c53<|
 .cons (by kernel_rfl) c54<|
 .cons (by kernel_rfl) c55<|
 .cons (by kernel_rfl) c56<|
 .cons (by kernel_rfl) c58<|
 .cons (by kernel_rfl) c59<|
 .cons (by kernel_rfl) c60<|
 .cons (by kernel_rfl) c61<|
 .cons (by kernel_rfl) c62<|
 .cons (by kernel_rfl) c63<|
 .cons (by kernel_rfl) c64<|
 .cons (by kernel_rfl) c65<|
 .cons (by kernel_rfl) c66<|
 .cons (by kernel_rfl) c70<|
 .cons (by kernel_rfl) c77<|
 .cons (by kernel_rfl) c78<|
 .cons (by kernel_rfl) c83<|
 .cons (by kernel_rfl) c84<|
 .cons (by kernel_rfl) c89<|
 .cons (by kernel_rfl) c90<|
 .cons (by kernel_rfl) c91<|
 .cons (by kernel_rfl) c92<|
 .cons (by kernel_rfl) c93<|
 .cons (by kernel_rfl) c94<|
 .cons (by kernel_rfl) c95<|
 .cons (by kernel_rfl) c96<|
 .cons (by kernel_rfl) c97<|
 .cons (by kernel_rfl) c98<|
 .cons (by kernel_rfl) c99<|
 .cons (by kernel_rfl) c100<|
 .cons (by kernel_rfl) c101<|
 .cons (by kernel_rfl) c102<|
 .cons (by kernel_rfl) c103<|
 .cons (by kernel_rfl) c104<|
 .cons (by kernel_rfl) c105<|
 .cons (by kernel_rfl) c106<|
 .cons (by kernel_rfl) c107<|
 .cons (by kernel_rfl) c108<|
 .cons (by kernel_rfl) c109<|
 .cons (by kernel_rfl) c110<|
 .cons (by kernel_rfl) c111<|
 .cons (by kernel_rfl) c113<|
 .cons (by kernel_rfl) c114<|
 .cons (by kernel_rfl) c115<|
 .cons (by kernel_rfl) c116<|
 .cons (by kernel_rfl) c117<|
 .cons (by kernel_rfl) c118<|
 .cons (by kernel_rfl) c119<|
 .cons (by kernel_rfl) c120<|
 .cons (by kernel_rfl) c121<|
 .cons (by kernel_rfl) c126<|
 .cons (by kernel_rfl) c127<|
 .cons (by kernel_rfl) c128<|
 .cons (by kernel_rfl) c129<|
 .cons (by kernel_rfl) c130<|
 .cons (by kernel_rfl) c131<|
 .cons (by kernel_rfl) c132<|
 .cons (by kernel_rfl) c133<|
 .cons (by kernel_rfl) c134<|
 .cons (by kernel_rfl) c136<|
 .cons (by kernel_rfl) c138<|
 .cons (by kernel_rfl) c139<|
 .cons (by kernel_rfl) c141<|
 .cons (by kernel_rfl) c142<|
 .cons (by kernel_rfl) c143<|
 .cons (by kernel_rfl) c144<|
 .cons (by kernel_rfl) c145<|
 .cons (by kernel_rfl) c146<|
 .cons (by kernel_rfl) c147<|
 .cons (by kernel_rfl) c148<|
 .cons (by kernel_rfl) c149<|
 .cons (by kernel_rfl) c150<|
 .cons (by kernel_rfl) c151<|
 .cons (by kernel_rfl) c152<|
 .cons (by kernel_rfl) c153<|
 .cons (by kernel_rfl) c154<|
 .cons (by kernel_rfl) c156<|
 .cons (by kernel_rfl) c157<|
 .cons (by kernel_rfl) c158<|
 .cons (by kernel_rfl) c159<|
 .cons (by kernel_rfl) c160<|
 .cons (by kernel_rfl) c161<|
 .cons (by kernel_rfl) c162<|
 .cons (by kernel_rfl) c163<|
 .cons (by kernel_rfl) c164<|
 .cons (by kernel_rfl) c165<|
 .cons (by kernel_rfl) c166<|
 .cons (by kernel_rfl) c167<|
 .cons (by kernel_rfl) c168<|
 .cons (by kernel_rfl) c173<|
 .cons (by kernel_rfl) c174<|
 .cons (by kernel_rfl) c175<|
 .cons (by kernel_rfl) c176<|
 .cons (by kernel_rfl) c177<|
 .cons (by kernel_rfl) c178<|
 .cons (by kernel_rfl) c180<|
 .cons (by kernel_rfl) c181<|
 .cons (by kernel_rfl) c182<|
 .cons (by kernel_rfl) c183<|
 .cons (by kernel_rfl) c184<|
 .cons (by kernel_rfl) c189<|
 .cons (by kernel_rfl) c191<|
 .cons (by kernel_rfl) c192<|
 .cons (by kernel_rfl) c193<|
 .cons (by kernel_rfl) c194<|
 .cons (by kernel_rfl) c195<|
 .cons (by kernel_rfl) c197<|
 .cons (by kernel_rfl) c198<|
 .cons (by kernel_rfl) c199<|
 .cons (by kernel_rfl) c200<|
 .cons (by kernel_rfl) c201<|
 .cons (by kernel_rfl) c202<|
 .cons (by kernel_rfl) c203<|
 .cons (by kernel_rfl) c204<|
 .cons (by kernel_rfl) c205<|
 .cons (by kernel_rfl) c206<|
 .cons (by kernel_rfl) c207<|
 .cons (by kernel_rfl) c208<|
 .cons (by kernel_rfl) c209<|
 .cons (by kernel_rfl) c210<|
 .cons (by kernel_rfl) c211<|
 .cons (by kernel_rfl) c212<|
 .cons (by kernel_rfl) c213<|
 .cons (by kernel_rfl) c214<|
 .cons (by kernel_rfl) c215<|
 .cons (by kernel_rfl) c216<|
 .cons (by kernel_rfl) c217<|
 .cons (by kernel_rfl) c218<|
 .cons (by kernel_rfl) c219<|
 .cons (by kernel_rfl) c220<|
 .cons (by kernel_rfl) c221<|
 .cons (by kernel_rfl) c222<|
 .cons (by kernel_rfl) c223<|
 .cons (by kernel_rfl) c224<|
 .cons (by kernel_rfl) c225<|
 .cons (by kernel_rfl) c226<|
 .cons (by kernel_rfl) c227<|
 .cons (by kernel_rfl) c228<|
 .cons (by kernel_rfl) c229<|
 .cons (by kernel_rfl) c230<|
 .cons (by kernel_rfl) c231<|
 .cons (by kernel_rfl) c232<|
 .cons (by kernel_rfl) c233<|
 .cons (by kernel_rfl) c235<|
 .cons (by kernel_rfl) c236<|
 .cons (by kernel_rfl) c237<|
 .cons (by kernel_rfl) c239<|
 .cons (by kernel_rfl) c240<|
 .nil
def AgD:rO Tryz.prog Tryz.f187 98 3 40 (.agg [(.int .i64 0),(.int .i64 0),.nsl]) :=
 ⟨_,_,_,_,_,_,_,_,_,34,34,98,rfl,by kernel_rfl,by kernel_rfl,rfl,rfl,rfl,by kernel_rfl,by kernel_rfl,by kernel_rfl,rfl,rfl⟩
def AgE:rO Tryz.prog Tryz.f186 40 2 16 (.agg [(.int .i64 0),(.int .i64 0)]) :=
 ⟨_,_,_,_,_,_,_,_,_,32,32,40,rfl,by kernel_rfl,by kernel_rfl,rfl,rfl,rfl,by kernel_rfl,by kernel_rfl,by kernel_rfl,rfl,rfl⟩
def AgF:rO Tryz.prog Tryz.f185 93 4 48 (.agg [(.int .i64 0),(.int .i64 0),.nsl,(.int .i64 0)]) :=
 ⟨_,_,_,_,_,_,_,_,_,31,31,93,rfl,by kernel_rfl,by kernel_rfl,rfl,rfl,rfl,by kernel_rfl,by kernel_rfl,by kernel_rfl,rfl,rfl⟩
def AgG:rO Tryz.prog Tryz.f155 114 7 72 (.agg [(.int .i64 0),(.int .i64 0),(.int .i64 0),(.int .i64 0),.nsl,(.int .i64 0),(.bool false)]) :=
 ⟨_,_,_,_,_,_,_,_,_,33,33,114,rfl,by kernel_rfl,by kernel_rfl,rfl,rfl,rfl,by kernel_rfl,by kernel_rfl,by kernel_rfl,rfl,rfl⟩
def AgH:rO Tryz.prog Tryz.f112 3 1 8 (.int .i64 0) :=
 ⟨_,_,_,_,_,_,_,_,_,25,25,3,rfl,by kernel_rfl,by kernel_rfl,rfl,rfl,rfl,by kernel_rfl,by kernel_rfl,by kernel_rfl,rfl,rfl⟩
def hooks:List (Nat×wQ):=[(234,eD),(196,eD),(190,eD),(188,eD),(238,nR),(57,Go.Proofs.YtegofjiikhlokaaGreatDoor.Err.asHook),(187,dN 98 3 40),(186,dN 40 2 16),(185,dN 93 4 48),(155,dN 114 7 72),(112,dN 3 1 8)]
theorem OC:wI Tryz.prog hooks :=
 .cons (sX (fn:=Tryz.f234) (tS:=41) (tR:=4) (e:=96) (by kernel_rfl) (by kernel_rfl) (by kernel_rfl) (by kernel_rfl) (by kernel_rfl) (by kernel_rfl) (by kernel_rfl)) <|
 .cons (sX (fn:=Tryz.f196) (tS:=33) (tR:=4) (e:=114) (by kernel_rfl) (by kernel_rfl) (by kernel_rfl) (by kernel_rfl) (by kernel_rfl) (by kernel_rfl) (by kernel_rfl)) <|
 .cons (sX (fn:=Tryz.f190) (tS:=32) (tR:=4) (e:=40) (by kernel_rfl) (by kernel_rfl) (by kernel_rfl) (by kernel_rfl) (by kernel_rfl) (by kernel_rfl) (by kernel_rfl)) <|
 .cons (sX (fn:=Tryz.f188) (tS:=31) (tR:=4) (e:=93) (by kernel_rfl) (by kernel_rfl) (by kernel_rfl) (by kernel_rfl) (by kernel_rfl) (by kernel_rfl) (by kernel_rfl)) <|
 .cons (V6 (fn:=Tryz.f238) (by kernel_rfl) (by kernel_rfl) (by kernel_rfl) (by kernel_rfl) (by kernel_rfl)) <|
 .cons Go.Proofs.YtegofjiikhlokaaGreatDoor.Err.asHookOk <|
 .cons (yB (fn:=Tryz.f187) (by kernel_rfl) (by kernel_rfl) (by kernel_rfl) AgD) <|
 .cons (yB (fn:=Tryz.f186) (by kernel_rfl) (by kernel_rfl) (by kernel_rfl) AgE) <|
 .cons (yB (fn:=Tryz.f185) (by kernel_rfl) (by kernel_rfl) (by kernel_rfl) AgF) <|
 .cons (yB (fn:=Tryz.f155) (by kernel_rfl) (by kernel_rfl) (by kernel_rfl) AgG) <|
 .cons (yB (fn:=Tryz.f112) (by kernel_rfl) (by kernel_rfl) (by kernel_rfl) AgH) <|
 .nil
def D:dA:=BE tab hooks
theorem OL:X3 Tryz.prog D:=Ts (by kernel_rfl) XB OC
end Go.Dm.Tc
