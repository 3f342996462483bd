/-
The table of functions (Tc). Written by program (wip/tools/table.lean.txt).
-/
import Derived.Test.YtlknnhbggakhnaaTc0
import Derived.Test.YtlknnhbggakhnaaTc1
namespace Go.Dm.Tc
open Go.Proofs
def tab:List (Nat×DFunc):=[(4,t4),(6,t6),(8,t8),(9,t9),(10,t10),(11,t11),(12,t12),(13,t13),(14,t14),(15,t15),(18,t18),(19,t19),(20,t20),(21,t21),(22,t22),(23,t23),(24,t24),(25,t25),(26,t26),(27,t27),(28,t28),(29,t29),(30,t30),(31,t31),(32,t32),(33,t33),(34,t34),(35,t35),(36,t36),(37,t37),(38,t38),(39,t39),(40,t40),(41,t41),(42,t42),(43,t43),(44,t44)]
set_option maxRecDepth 100000 in
theorem tab_ok:TabOk Try.prog tab :=
 .cons (fn:=Try.f4) (by kernel_rfl) c4 <|
 .cons (fn:=Try.f6) (by kernel_rfl) c6 <|
 .cons (fn:=Try.f8) (by kernel_rfl) c8 <|
 .cons (fn:=Try.f9) (by kernel_rfl) c9 <|
 .cons (fn:=Try.f10) (by kernel_rfl) c10 <|
 .cons (fn:=Try.f11) (by kernel_rfl) c11 <|
 .cons (fn:=Try.f12) (by kernel_rfl) c12 <|
 .cons (fn:=Try.f13) (by kernel_rfl) c13 <|
 .cons (fn:=Try.f14) (by kernel_rfl) c14 <|
 .cons (fn:=Try.f15) (by kernel_rfl) c15 <|
 .cons (fn:=Try.f18) (by kernel_rfl) c18 <|
 .cons (fn:=Try.f19) (by kernel_rfl) c19 <|
 .cons (fn:=Try.f20) (by kernel_rfl) c20 <|
 .cons (fn:=Try.f21) (by kernel_rfl) c21 <|
 .cons (fn:=Try.f22) (by kernel_rfl) c22 <|
 .cons (fn:=Try.f23) (by kernel_rfl) c23 <|
 .cons (fn:=Try.f24) (by kernel_rfl) c24 <|
 .cons (fn:=Try.f25) (by kernel_rfl) c25 <|
 .cons (fn:=Try.f26) (by kernel_rfl) c26 <|
 .cons (fn:=Try.f27) (by kernel_rfl) c27 <|
 .cons (fn:=Try.f28) (by kernel_rfl) c28 <|
 .cons (fn:=Try.f29) (by kernel_rfl) c29 <|
 .cons (fn:=Try.f30) (by kernel_rfl) c30 <|
 .cons (fn:=Try.f31) (by kernel_rfl) c31 <|
 .cons (fn:=Try.f32) (by kernel_rfl) c32 <|
 .cons (fn:=Try.f33) (by kernel_rfl) c33 <|
 .cons (fn:=Try.f34) (by kernel_rfl) c34 <|
 .cons (fn:=Try.f35) (by kernel_rfl) c35 <|
 .cons (fn:=Try.f36) (by kernel_rfl) c36 <|
 .cons (fn:=Try.f37) (by kernel_rfl) c37 <|
 .cons (fn:=Try.f38) (by kernel_rfl) c38 <|
 .cons (fn:=Try.f39) (by kernel_rfl) c39 <|
 .cons (fn:=Try.f40) (by kernel_rfl) c40 <|
 .cons (fn:=Try.f41) (by kernel_rfl) c41 <|
 .cons (fn:=Try.f42) (by kernel_rfl) c42 <|
 .cons (fn:=Try.f43) (by kernel_rfl) c43 <|
 .cons (fn:=Try.f44) (by kernel_rfl) c44 <|
 .nil
def hooks:List (Nat×Hook):=[]
theorem hooks_ok:HooksOk Try.prog hooks :=
 .nil
def D:DProg:=hookedD tab hooks
theorem good:Good Try.prog D:=hookedD_good (by kernel_rfl) tab_ok hooks_ok
end Go.Dm.Tc
