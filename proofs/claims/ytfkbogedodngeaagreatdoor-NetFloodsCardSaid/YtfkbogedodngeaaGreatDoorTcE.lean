/- A part of the proof. -/
import Derived.Test.YtfkbogedodngeaaGreatDoorTc
import Derived.Test.YtfkbogedodngeaaGreatDoorMm5
namespace Go.Dm.Tc
abbrev P0E(k : Nat)(t : aK) : Prop := ∀ (args : List DV) (h : aA), fc D k args h = sG D t h (args.mapM (resolve true h bT))
theorem e5 : P0E 5 t5 := cG (by kernel_rfl) (by kernel_rfl) rfl
theorem e10 : P0E 10 t10 := cG (by kernel_rfl) (by kernel_rfl) rfl
theorem e23 : P0E 23 t23 := cG (by kernel_rfl) (by kernel_rfl) rfl
abbrev P1E(k : Nat)(t : aK) : Prop := ∀ (args : List DV) (h : aA), fc D k args h = gT (ev D) t args h
theorem e24 : P1E 24 t24 := dS (by kernel_rfl) (by kernel_rfl) rfl
theorem e25 : P1E 25 t25 := dS (by kernel_rfl) (by kernel_rfl) rfl
theorem e26 : P0E 26 t26 := cG (by kernel_rfl) (by kernel_rfl) rfl
theorem e27 : P1E 27 t27 := dS (by kernel_rfl) (by kernel_rfl) rfl
theorem e28 : P1E 28 t28 := dS (by kernel_rfl) (by kernel_rfl) rfl
theorem e29 : P1E 29 t29 := dS (by kernel_rfl) (by kernel_rfl) rfl
theorem e30 : P0E 30 t30 := cG (by kernel_rfl) (by kernel_rfl) rfl
theorem e31 : P1E 31 t31 := dS (by kernel_rfl) (by kernel_rfl) rfl
theorem e32 : P0E 32 t32 := cG (by kernel_rfl) (by kernel_rfl) rfl
theorem e33 : P1E 33 t33 := dS (by kernel_rfl) (by kernel_rfl) rfl
theorem e34 : P0E 34 t34 := cG (by kernel_rfl) (by kernel_rfl) rfl
theorem e40 : P0E 40 t40 := cG (by kernel_rfl) (by kernel_rfl) rfl
abbrev P2E(k : Nat)(t : aK) : Prop := ∀ (args : List DV) (h : aA), fc D k args h = S3 D t (sX fQ h args)
theorem e52 : P2E 52 t52 := Hs (by kernel_rfl) (by kernel_rfl) rfl
theorem e64 : P0E 64 t64 := cG (by kernel_rfl) (by kernel_rfl) rfl
theorem e71 : P1E 71 t71 := dS (by kernel_rfl) (by kernel_rfl) rfl
theorem e72 : P0E 72 t72 := cG (by kernel_rfl) (by kernel_rfl) rfl
theorem e73 : P0E 73 t73 := cG (by kernel_rfl) (by kernel_rfl) rfl
theorem e74 : P0E 74 t74 := cG (by kernel_rfl) (by kernel_rfl) rfl
theorem e75 : P1E 75 t75 := dS (by kernel_rfl) (by kernel_rfl) rfl
theorem e76 : P0E 76 t76 := cG (by kernel_rfl) (by kernel_rfl) rfl
theorem e77 : P1E 77 t77 := dS (by kernel_rfl) (by kernel_rfl) rfl
theorem e78 : P1E 78 t78 := dS (by kernel_rfl) (by kernel_rfl) rfl
theorem e79 : P2E 79 t79 := Hs (by kernel_rfl) (by kernel_rfl) rfl
theorem e80 : P0E 80 t80 := cG (by kernel_rfl) (by kernel_rfl) rfl
theorem e81 : P0E 81 t81 := cG (by kernel_rfl) (by kernel_rfl) rfl
theorem e82 : P1E 82 t82 := dS (by kernel_rfl) (by kernel_rfl) rfl
theorem e83 : P1E 83 t83 := dS (by kernel_rfl) (by kernel_rfl) rfl
theorem e84 : P1E 84 t84 := dS (by kernel_rfl) (by kernel_rfl) rfl
theorem e85 : P1E 85 t85 := dS (by kernel_rfl) (by kernel_rfl) rfl
theorem e86 : P0E 86 t86 := cG (by kernel_rfl) (by kernel_rfl) rfl
theorem e87 : P1E 87 t87 := dS (by kernel_rfl) (by kernel_rfl) rfl
theorem CK : P0E 101 Np := cG (by kernel_rfl) (by kernel_rfl) rfl
theorem t9 : P0E 103 Fk := cG (by kernel_rfl) (by kernel_rfl) rfl
theorem WP : P0E 104 Bg := cG (by kernel_rfl) (by kernel_rfl) rfl
theorem WO : P0E 105 uJ := cG (by kernel_rfl) (by kernel_rfl) rfl
theorem t8 : P1E 106 Rx := dS (by kernel_rfl) (by kernel_rfl) rfl
theorem e134 : P2E 134 Yg := Hs (by kernel_rfl) (by kernel_rfl) rfl
theorem WN : P1E 143 Nn := dS (by kernel_rfl) (by kernel_rfl) rfl
theorem t6 : P0E 154 W8 := cG (by kernel_rfl) (by kernel_rfl) rfl
theorem e171 : P0E 171 Ye := cG (by kernel_rfl) (by kernel_rfl) rfl
theorem e172 : P1E 172 FH := dS (by kernel_rfl) (by kernel_rfl) rfl
theorem s8 : P2E 174 W7 := Hs (by kernel_rfl) (by kernel_rfl) rfl
theorem e175 : P1E 175 FF := dS (by kernel_rfl) (by kernel_rfl) rfl
theorem s7 : P0E 179 W6 := cG (by kernel_rfl) (by kernel_rfl) rfl
theorem e182 : P1E 182 FE := dS (by kernel_rfl) (by kernel_rfl) rfl
theorem e183 : P0E 183 W5 := cG (by kernel_rfl) (by kernel_rfl) rfl
theorem e184 : P0E 184 W4 := cG (by kernel_rfl) (by kernel_rfl) rfl
theorem e190 : P0E 190 W2 := cG (by kernel_rfl) (by kernel_rfl) rfl
theorem I8 : P0E 193 Bf := cG (by kernel_rfl) (by kernel_rfl) rfl
theorem s6 : P2E 213 V9 := Hs (by kernel_rfl) (by kernel_rfl) rfl
theorem q9 : P0E 220 V8 := cG (by kernel_rfl) (by kernel_rfl) rfl
theorem p9 : P0E 222 V7 := cG (by kernel_rfl) (by kernel_rfl) rfl
theorem e233 : P1E 233 FD := dS (by kernel_rfl) (by kernel_rfl) rfl
theorem e234(args:List DV)(h:aA):fc D 234 args h=dH (ev D) xU args h:=R8 (by kernel_rfl) (by kernel_rfl) args h
theorem e235(args:List DV)(h:aA):fc D 235 args h=dH (ev D) xS args h:=R8 (by kernel_rfl) (by kernel_rfl) args h
theorem e238(args:List DV)(h:aA):fc D 238 args h=dH (ev D) TL args h:=R8 (by kernel_rfl) (by kernel_rfl) args h
theorem e239 : P1E 239 FC := dS (by kernel_rfl) (by kernel_rfl) rfl
theorem e240 : P0E 240 V6 := cG (by kernel_rfl) (by kernel_rfl) rfl
theorem e263 : P1E 263 V5 := dS (by kernel_rfl) (by kernel_rfl) rfl
theorem e264 : P1E 264 V4 := dS (by kernel_rfl) (by kernel_rfl) rfl
theorem o9 : P0E 265 V3 := cG (by kernel_rfl) (by kernel_rfl) rfl
theorem e276 : P0E 276 V2 := cG (by kernel_rfl) (by kernel_rfl) rfl
theorem e298 : P0E 298 V1 := cG (by kernel_rfl) (by kernel_rfl) rfl
theorem o8 : P1E 299 Xv := dS (by kernel_rfl) (by kernel_rfl) rfl
theorem e325(args:List DV)(h:aA):fc D 325 args h=dH (ev D) SU args h:=R8 (by kernel_rfl) (by kernel_rfl) args h
theorem e328 : P0E 328 V0 := cG (by kernel_rfl) (by kernel_rfl) rfl
theorem e336(args:List DV)(h:aA):fc D 336 args h=dM h args:=gO (by kernel_rfl) args h
theorem e296(args:List DV)(h:aA):fc D 296 args h=dM h args:=gO (by kernel_rfl) args h
theorem e290(args:List DV)(h:aA):fc D 290 args h=dM h args:=gO (by kernel_rfl) args h
theorem e288(args:List DV)(h:aA):fc D 288 args h=dM h args:=gO (by kernel_rfl) args h
theorem e339(args:List DV)(h:aA):fc D 339 args h=nL h args:=gO (by kernel_rfl) args h
theorem e62(args:List DV)(h:aA):fc D 62 args h=asHook 57 140 137 143 h args:=gO (by kernel_rfl) args h
theorem t7(args:List DV)(h:aA):fc D 142 args h=rO h args:=gO (by kernel_rfl) args h
theorem u4(args:List DV)(h:aA):fc D 102 args h=oU 103 h args:=gO (by kernel_rfl) args h
theorem e180(args:List DV)(h:aA):fc D 180 args h=jI 49 7 88 h args:=gO (by kernel_rfl) args h
theorem s9(args:List DV)(h:aA):fc D 173 args h=jI 86 2 16 h args:=gO (by kernel_rfl) args h
theorem e93(args:List DV)(h:aA):fc D 93 args h=bJ 180 4 32 h args:=gO (by kernel_rfl) args h
theorem e92(args:List DV)(h:aA):fc D 92 args h=bJ 134 3 40 h args:=gO (by kernel_rfl) args h
theorem e91(args:List DV)(h:aA):fc D 91 args h=bJ 70 7 72 h args:=gO (by kernel_rfl) args h
theorem e90(args:List DV)(h:aA):fc D 90 args h=bJ 45 2 16 h args:=gO (by kernel_rfl) args h
theorem e89(args:List DV)(h:aA):fc D 89 args h=bJ 68 4 48 h args:=gO (by kernel_rfl) args h
theorem e88(args:List DV)(h:aA):fc D 88 args h=bJ 3 1 8 h args:=gO (by kernel_rfl) args h
end Go.Dm.Tc
