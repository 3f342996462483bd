/-
What a call of each function is (Tc). Written by program (wip/tools/table.lean.txt).
-/
import Derived.Test.YtlknnhbggakhnaaTc
import Derived.Test.YtlknnhbggakhnaaMm4
namespace Go.Dm.Tc
theorem e4 (args:List DV) (h:Heap):fc D 4 args h=callP D t4 h (args.mapM (resolve true h deepFuel)):=fc_pure (by kernel_rfl) (by kernel_rfl) rfl args h
theorem e6 (args:List DV) (h:Heap):fc D 6 args h=callP D t6 h (args.mapM (resolve true h deepFuel)):=fc_pure (by kernel_rfl) (by kernel_rfl) rfl args h
theorem e8 (args:List DV) (h:Heap):fc D 8 args h=callP D t8 h (args.mapM (resolve true h deepFuel)):=fc_pure (by kernel_rfl) (by kernel_rfl) rfl args h
theorem e9 (args:List DV) (h:Heap):fc D 9 args h=callP D t9 h (args.mapM (resolve true h deepFuel)):=fc_pure (by kernel_rfl) (by kernel_rfl) rfl args h
theorem e10 (args:List DV) (h:Heap):fc D 10 args h=callP D t10 h (args.mapM (resolve true h deepFuel)):=fc_pure (by kernel_rfl) (by kernel_rfl) rfl args h
theorem e11 (args:List DV) (h:Heap):fc D 11 args h=callP D t11 h (args.mapM (resolve true h deepFuel)):=fc_pure (by kernel_rfl) (by kernel_rfl) rfl args h
theorem e12 (args:List DV) (h:Heap):fc D 12 args h=callP D t12 h (args.mapM (resolve true h deepFuel)):=fc_pure (by kernel_rfl) (by kernel_rfl) rfl args h
theorem e13 (args:List DV) (h:Heap):fc D 13 args h=callP D t13 h (args.mapM (resolve true h deepFuel)):=fc_pure (by kernel_rfl) (by kernel_rfl) rfl args h
theorem e14 (args:List DV) (h:Heap):fc D 14 args h=callP D t14 h (args.mapM (resolve true h deepFuel)):=fc_pure (by kernel_rfl) (by kernel_rfl) rfl args h
theorem e15 (args:List DV) (h:Heap):fc D 15 args h=callP D t15 h (args.mapM (resolve true h deepFuel)):=fc_pure (by kernel_rfl) (by kernel_rfl) rfl args h
theorem e18 (args:List DV) (h:Heap):fc D 18 args h=callP D t18 h (args.mapM (resolve true h deepFuel)):=fc_pure (by kernel_rfl) (by kernel_rfl) rfl args h
theorem e19 (args:List DV) (h:Heap):fc D 19 args h=callP D t19 h (args.mapM (resolve true h deepFuel)):=fc_pure (by kernel_rfl) (by kernel_rfl) rfl args h
theorem e20 (args:List DV) (h:Heap):fc D 20 args h=callP D t20 h (args.mapM (resolve true h deepFuel)):=fc_pure (by kernel_rfl) (by kernel_rfl) rfl args h
theorem e21 (args:List DV) (h:Heap):fc D 21 args h=callP D t21 h (args.mapM (resolve true h deepFuel)):=fc_pure (by kernel_rfl) (by kernel_rfl) rfl args h
theorem e22 (args:List DV) (h:Heap):fc D 22 args h=goRun (ev D) t22 args h:=fc_full (by kernel_rfl) (by kernel_rfl) rfl args h
theorem e23 (args:List DV) (h:Heap):fc D 23 args h=goRun (ev D) t23 args h:=fc_full (by kernel_rfl) (by kernel_rfl) rfl args h
theorem e24 (args:List DV) (h:Heap):fc D 24 args h=callP D t24 h (args.mapM (resolve true h deepFuel)):=fc_pure (by kernel_rfl) (by kernel_rfl) rfl args h
theorem e25 (args:List DV) (h:Heap):fc D 25 args h=goRun (ev D) t25 args h:=fc_full (by kernel_rfl) (by kernel_rfl) rfl args h
theorem e26 (args:List DV) (h:Heap):fc D 26 args h=callP D t26 h (args.mapM (resolve true h deepFuel)):=fc_pure (by kernel_rfl) (by kernel_rfl) rfl args h
theorem e27 (args:List DV) (h:Heap):fc D 27 args h=goRun (ev D) t27 args h:=fc_full (by kernel_rfl) (by kernel_rfl) rfl args h
theorem e28 (args:List DV) (h:Heap):fc D 28 args h=goRun (ev D) t28 args h:=fc_full (by kernel_rfl) (by kernel_rfl) rfl args h
theorem e29 (args:List DV) (h:Heap):fc D 29 args h=goRun (ev D) t29 args h:=fc_full (by kernel_rfl) (by kernel_rfl) rfl args h
theorem e30 (args:List DV) (h:Heap):fc D 30 args h=goRun (ev D) t30 args h:=fc_full (by kernel_rfl) (by kernel_rfl) rfl args h
theorem e31 (args:List DV) (h:Heap):fc D 31 args h=goRun (ev D) t31 args h:=fc_full (by kernel_rfl) (by kernel_rfl) rfl args h
theorem e32 (args:List DV) (h:Heap):fc D 32 args h=goRun (ev D) t32 args h:=fc_full (by kernel_rfl) (by kernel_rfl) rfl args h
theorem e33 (args:List DV) (h:Heap):fc D 33 args h=callP D t33 h (args.mapM (resolve true h deepFuel)):=fc_pure (by kernel_rfl) (by kernel_rfl) rfl args h
theorem e34 (args:List DV) (h:Heap):fc D 34 args h=goRun (ev D) t34 args h:=fc_full (by kernel_rfl) (by kernel_rfl) rfl args h
theorem e35 (args:List DV) (h:Heap):fc D 35 args h=goRun (ev D) t35 args h:=fc_full (by kernel_rfl) (by kernel_rfl) rfl args h
theorem e36 (args:List DV) (h:Heap):fc D 36 args h=callP D t36 h (args.mapM (resolve true h deepFuel)):=fc_pure (by kernel_rfl) (by kernel_rfl) rfl args h
theorem e37 (args:List DV) (h:Heap):fc D 37 args h=callP D t37 h (args.mapM (resolve true h deepFuel)):=fc_pure (by kernel_rfl) (by kernel_rfl) rfl args h
theorem e38 (args:List DV) (h:Heap):fc D 38 args h=goRun (ev D) t38 args h:=fc_full (by kernel_rfl) (by kernel_rfl) rfl args h
theorem e39 (args:List DV) (h:Heap):fc D 39 args h=callP D t39 h (args.mapM (resolve true h deepFuel)):=fc_pure (by kernel_rfl) (by kernel_rfl) rfl args h
theorem e40 (args:List DV) (h:Heap):fc D 40 args h=goRun (ev D) t40 args h:=fc_full (by kernel_rfl) (by kernel_rfl) rfl args h
theorem e41 (args:List DV) (h:Heap):fc D 41 args h=goRun (ev D) t41 args h:=fc_full (by kernel_rfl) (by kernel_rfl) rfl args h
theorem e42 (args:List DV) (h:Heap):fc D 42 args h=goRun (ev D) t42 args h:=fc_full (by kernel_rfl) (by kernel_rfl) rfl args h
theorem e43 (args:List DV) (h:Heap):fc D 43 args h=callP D t43 h (args.mapM (resolve true h deepFuel)):=fc_pure (by kernel_rfl) (by kernel_rfl) rfl args h
theorem e44 (args:List DV) (h:Heap):fc D 44 args h=callP D t44 h (args.mapM (resolve true h deepFuel)):=fc_pure (by kernel_rfl) (by kernel_rfl) rfl args h
end Go.Dm.Tc
