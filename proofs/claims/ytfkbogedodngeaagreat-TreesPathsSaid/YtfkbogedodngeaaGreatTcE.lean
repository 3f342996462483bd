/- A part of the proof. -/
import Derived.Test.YtfkbogedodngeaaGreatTc
import Derived.Test.YtfkbogedodngeaaGreatMm5
namespace Go.Dm.Tc
abbrev P0E(k : Nat)(t : aK) : Prop := ∀ (args : List DV) (h : aA), fc D k args h = rH D t h (args.mapM (resolve true h bT))
theorem e5 : P0E 5 t5 := bZ (by kernel_rfl) (by kernel_rfl) rfl
abbrev P1E(k : Nat)(t : aK) : Prop := ∀ (args : List DV) (h : aA), fc D k args h = N0 D t (rZ fP h args)
theorem e6 : P1E 6 t6 := Gi (by kernel_rfl) (by kernel_rfl) rfl
theorem e7 : P0E 7 t7 := bZ (by kernel_rfl) (by kernel_rfl) rfl
theorem e8 : P0E 8 t8 := bZ (by kernel_rfl) (by kernel_rfl) rfl
theorem e17 : P0E 17 t17 := bZ (by kernel_rfl) (by kernel_rfl) rfl
abbrev P2E(k : Nat)(t : aK) : Prop := ∀ (args : List DV) (h : aA), fc D k args h = gS (ev D) t args h
theorem e18 : P2E 18 t18 := dX (by kernel_rfl) (by kernel_rfl) rfl
theorem e19 : P2E 19 t19 := dX (by kernel_rfl) (by kernel_rfl) rfl
theorem e20 : P2E 20 t20 := dX (by kernel_rfl) (by kernel_rfl) rfl
theorem e22 : P2E 22 t22 := dX (by kernel_rfl) (by kernel_rfl) rfl
theorem e23 : P2E 23 t23 := dX (by kernel_rfl) (by kernel_rfl) rfl
theorem e24 : P0E 24 t24 := bZ (by kernel_rfl) (by kernel_rfl) rfl
theorem e26 : P0E 26 t26 := bZ (by kernel_rfl) (by kernel_rfl) rfl
theorem e27 : P0E 27 t27 := bZ (by kernel_rfl) (by kernel_rfl) rfl
theorem e28 : P0E 28 t28 := bZ (by kernel_rfl) (by kernel_rfl) rfl
theorem e29 : P0E 29 t29 := bZ (by kernel_rfl) (by kernel_rfl) rfl
theorem e30 : P0E 30 t30 := bZ (by kernel_rfl) (by kernel_rfl) rfl
theorem e31 : P2E 31 t31 := dX (by kernel_rfl) (by kernel_rfl) rfl
theorem e32 : P0E 32 t32 := bZ (by kernel_rfl) (by kernel_rfl) rfl
theorem e33 : P0E 33 t33 := bZ (by kernel_rfl) (by kernel_rfl) rfl
theorem e34(args:List DV)(h:aA):fc D 34 args h=dI (ev D) t34 args h:=M5 (by kernel_rfl) (by kernel_rfl) args h
theorem e35(args:List DV)(h:aA):fc D 35 args h=dI (ev D) t35 args h:=M5 (by kernel_rfl) (by kernel_rfl) args h
theorem e38 : P2E 38 t38 := dX (by kernel_rfl) (by kernel_rfl) rfl
theorem e41 : P0E 41 t41 := bZ (by kernel_rfl) (by kernel_rfl) rfl
theorem e50 : P2E 50 t50 := dX (by kernel_rfl) (by kernel_rfl) rfl
theorem e51 : P0E 51 t51 := bZ (by kernel_rfl) (by kernel_rfl) rfl
theorem e53 : P0E 53 t53 := bZ (by kernel_rfl) (by kernel_rfl) rfl
theorem e54 : P2E 54 t54 := dX (by kernel_rfl) (by kernel_rfl) rfl
theorem e55 : P0E 55 t55 := bZ (by kernel_rfl) (by kernel_rfl) rfl
theorem e56 : P2E 56 t56 := dX (by kernel_rfl) (by kernel_rfl) rfl
theorem e57 : P2E 57 t57 := dX (by kernel_rfl) (by kernel_rfl) rfl
theorem e58 : P1E 58 t58 := Gi (by kernel_rfl) (by kernel_rfl) rfl
theorem e59 : P2E 59 t59 := dX (by kernel_rfl) (by kernel_rfl) rfl
theorem e61 : P1E 61 t61 := Gi (by kernel_rfl) (by kernel_rfl) rfl
theorem e62 : P2E 62 t62 := dX (by kernel_rfl) (by kernel_rfl) rfl
theorem e63 : P1E 63 t63 := Gi (by kernel_rfl) (by kernel_rfl) rfl
theorem e64 : P2E 64 t64 := dX (by kernel_rfl) (by kernel_rfl) rfl
theorem e65 : P2E 65 t65 := dX (by kernel_rfl) (by kernel_rfl) rfl
theorem e66 : P0E 66 t66 := bZ (by kernel_rfl) (by kernel_rfl) rfl
theorem e67 : P2E 67 t67 := dX (by kernel_rfl) (by kernel_rfl) rfl
theorem e69 : P0E 69 t69 := bZ (by kernel_rfl) (by kernel_rfl) rfl
theorem e70 : P0E 70 t70 := bZ (by kernel_rfl) (by kernel_rfl) rfl
theorem e71 : P2E 71 t71 := dX (by kernel_rfl) (by kernel_rfl) rfl
theorem e75 : P0E 75 t75 := bZ (by kernel_rfl) (by kernel_rfl) rfl
theorem e76 : P0E 76 t76 := bZ (by kernel_rfl) (by kernel_rfl) rfl
theorem e77 : P0E 77 t77 := bZ (by kernel_rfl) (by kernel_rfl) rfl
theorem e78 : P0E 78 t78 := bZ (by kernel_rfl) (by kernel_rfl) rfl
theorem e98 : P0E 98 t98 := bZ (by kernel_rfl) (by kernel_rfl) rfl
theorem e99 : P0E 99 t99 := bZ (by kernel_rfl) (by kernel_rfl) rfl
theorem ZK : P0E 101 P9 := bZ (by kernel_rfl) (by kernel_rfl) rfl
theorem ZJ : P2E 102 CX := dX (by kernel_rfl) (by kernel_rfl) rfl
theorem ZI : P2E 103 CW := dX (by kernel_rfl) (by kernel_rfl) rfl
theorem WU : P1E 104 P8 := Gi (by kernel_rfl) (by kernel_rfl) rfl
theorem ZH : P2E 107 CV := dX (by kernel_rfl) (by kernel_rfl) rfl
theorem ZG : P0E 108 P7 := bZ (by kernel_rfl) (by kernel_rfl) rfl
theorem SV : P0E 109 Ae := bZ (by kernel_rfl) (by kernel_rfl) rfl
theorem SU : P0E 110 tA := bZ (by kernel_rfl) (by kernel_rfl) rfl
theorem e129(args:List DV)(h:aA):fc D 129 args h=dI (ev D) QB args h:=M5 (by kernel_rfl) (by kernel_rfl) args h
theorem WS : P0E 133 Dt := bZ (by kernel_rfl) (by kernel_rfl) rfl
theorem WR : P2E 134 Qd := dX (by kernel_rfl) (by kernel_rfl) rfl
theorem ZF : P2E 135 P6 := dX (by kernel_rfl) (by kernel_rfl) rfl
theorem ZE : P2E 136 P5 := dX (by kernel_rfl) (by kernel_rfl) rfl
theorem WQ : P0E 137 P4 := bZ (by kernel_rfl) (by kernel_rfl) rfl
theorem ZD : P2E 140 CT := dX (by kernel_rfl) (by kernel_rfl) rfl
theorem ZC : P0E 141 P3 := bZ (by kernel_rfl) (by kernel_rfl) rfl
theorem A9 : P0E 142 Ad := bZ (by kernel_rfl) (by kernel_rfl) rfl
theorem e156(args:List DV)(h:aA):fc D 156 args h=dI (ev D) PQ args h:=M5 (by kernel_rfl) (by kernel_rfl) args h
theorem WP : P0E 165 P2 := bZ (by kernel_rfl) (by kernel_rfl) rfl
theorem ZB : P0E 168 P1 := bZ (by kernel_rfl) (by kernel_rfl) rfl
theorem WO : P2E 169 Wc := dX (by kernel_rfl) (by kernel_rfl) rfl
theorem ZA : P0E 185 P0 := bZ (by kernel_rfl) (by kernel_rfl) rfl
theorem e173(args:List DV)(h:aA):fc D 173 args h=dM h args:=jD (by kernel_rfl) args h
theorem e162(args:List DV)(h:aA):fc D 162 args h=dM h args:=jD (by kernel_rfl) args h
theorem e81(args:List DV)(h:aA):fc D 81 args h=dM h args:=jD (by kernel_rfl) args h
theorem e79(args:List DV)(h:aA):fc D 79 args h=dM h args:=jD (by kernel_rfl) args h
theorem e186(args:List DV)(h:aA):fc D 186 args h=mP h args:=jD (by kernel_rfl) args h
theorem e37(args:List DV)(h:aA):fc D 37 args h=qR h args:=jD (by kernel_rfl) args h
theorem WT(args:List DV)(h:aA):fc D 132 args h=nP 133 h args:=jD (by kernel_rfl) args h
theorem e44(args:List DV)(h:aA):fc D 44 args h=bP 102 3 40 h args:=jD (by kernel_rfl) args h
theorem e74(args:List DV)(h:aA):fc D 74 args h=bP 58 7 72 h args:=jD (by kernel_rfl) args h
theorem e73(args:List DV)(h:aA):fc D 73 args h=bP 24 2 16 h args:=jD (by kernel_rfl) args h
theorem e72(args:List DV)(h:aA):fc D 72 args h=bP 37 4 48 h args:=jD (by kernel_rfl) args h
theorem e36(args:List DV)(h:aA):fc D 36 args h=bP 3 1 8 h args:=jD (by kernel_rfl) args h
theorem WV(args:List DV)(h:aA):fc D 100 args h=nG 76 2 16 h args:=jD (by kernel_rfl) args h
end Go.Dm.Tc
