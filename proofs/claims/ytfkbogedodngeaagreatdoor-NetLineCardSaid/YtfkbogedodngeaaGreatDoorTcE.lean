/- A part of the proof. -/
import Derived.Test.YtfkbogedodngeaaGreatDoorTc
import Derived.Test.YtfkbogedodngeaaGreatDoorMm5
namespace Go.Dm.Tc
abbrev P0E(k : Nat)(t : aL) : Prop := ∀ (args : List DV) (h : aA), fc D k args h = sQ D t h (args.mapM (resolve true h bO))
theorem e6 : P0E 6 t6 := dA (by kernel_rfl) (by kernel_rfl) rfl
theorem e10 : P0E 10 t10 := dA (by kernel_rfl) (by kernel_rfl) rfl
abbrev P1E(k : Nat)(t : aL) : Prop := ∀ (args : List DV) (h : aA), fc D k args h = gR (ev D) t args h
theorem e24 : P1E 24 t24 := dP (by kernel_rfl) (by kernel_rfl) rfl
theorem e25 : P1E 25 t25 := dP (by kernel_rfl) (by kernel_rfl) rfl
theorem e27 : P1E 27 t27 := dP (by kernel_rfl) (by kernel_rfl) rfl
theorem e29 : P1E 29 t29 := dP (by kernel_rfl) (by kernel_rfl) rfl
theorem e33 : P1E 33 t33 := dP (by kernel_rfl) (by kernel_rfl) rfl
theorem e34 : P0E 34 t34 := dA (by kernel_rfl) (by kernel_rfl) rfl
theorem e35 : P1E 35 t35 := dP (by kernel_rfl) (by kernel_rfl) rfl
theorem e36 : P1E 36 t36 := dP (by kernel_rfl) (by kernel_rfl) rfl
theorem e37 : P1E 37 t37 := dP (by kernel_rfl) (by kernel_rfl) rfl
theorem e40 : P0E 40 t40 := dA (by kernel_rfl) (by kernel_rfl) rfl
abbrev P2E(k : Nat)(t : aL) : Prop := ∀ (args : List DV) (h : aA), fc D k args h = Wp D t (oC fB h args)
theorem e52 : P2E 52 t52 := yZ (by kernel_rfl) (by kernel_rfl) rfl
theorem e64 : P0E 64 t64 := dA (by kernel_rfl) (by kernel_rfl) rfl
theorem e73 : P0E 73 t73 := dA (by kernel_rfl) (by kernel_rfl) rfl
theorem e74 : P0E 74 t74 := dA (by kernel_rfl) (by kernel_rfl) rfl
theorem e75 : P1E 75 t75 := dP (by kernel_rfl) (by kernel_rfl) rfl
theorem e76 : P0E 76 t76 := dA (by kernel_rfl) (by kernel_rfl) rfl
theorem e77 : P1E 77 t77 := dP (by kernel_rfl) (by kernel_rfl) rfl
theorem e78 : P1E 78 t78 := dP (by kernel_rfl) (by kernel_rfl) rfl
theorem e79 : P2E 79 t79 := yZ (by kernel_rfl) (by kernel_rfl) rfl
theorem e82 : P1E 82 t82 := dP (by kernel_rfl) (by kernel_rfl) rfl
theorem e84 : P1E 84 t84 := dP (by kernel_rfl) (by kernel_rfl) rfl
theorem e85 : P1E 85 t85 := dP (by kernel_rfl) (by kernel_rfl) rfl
theorem e86 : P0E 86 t86 := dA (by kernel_rfl) (by kernel_rfl) rfl
theorem e87 : P1E 87 t87 := dP (by kernel_rfl) (by kernel_rfl) rfl
theorem e94 : P1E 94 t94 := dP (by kernel_rfl) (by kernel_rfl) rfl
theorem e95 : P2E 95 t95 := yZ (by kernel_rfl) (by kernel_rfl) rfl
theorem e96 : P1E 96 t96 := dP (by kernel_rfl) (by kernel_rfl) rfl
theorem e97 : P2E 97 t97 := yZ (by kernel_rfl) (by kernel_rfl) rfl
theorem CT : P0E 101 Nt := dA (by kernel_rfl) (by kernel_rfl) rfl
theorem e103 : P0E 103 Fw := dA (by kernel_rfl) (by kernel_rfl) rfl
theorem XD : P0E 104 Ca := dA (by kernel_rfl) (by kernel_rfl) rfl
theorem XC : P0E 105 uR := dA (by kernel_rfl) (by kernel_rfl) rfl
theorem e106 : P1E 106 Ry := dP (by kernel_rfl) (by kernel_rfl) rfl
theorem e134 : P2E 134 Yk := yZ (by kernel_rfl) (by kernel_rfl) rfl
theorem XB : P1E 143 Nr := dP (by kernel_rfl) (by kernel_rfl) rfl
theorem e154 : P0E 154 X9 := dA (by kernel_rfl) (by kernel_rfl) rfl
theorem e171 : P0E 171 Yi := dA (by kernel_rfl) (by kernel_rfl) rfl
theorem e172 : P1E 172 FK := dP (by kernel_rfl) (by kernel_rfl) rfl
theorem e174 : P2E 174 X8 := yZ (by kernel_rfl) (by kernel_rfl) rfl
theorem e175 : P1E 175 FI := dP (by kernel_rfl) (by kernel_rfl) rfl
theorem e182 : P1E 182 FH := dP (by kernel_rfl) (by kernel_rfl) rfl
theorem e183 : P0E 183 X6 := dA (by kernel_rfl) (by kernel_rfl) rfl
theorem e184 : P0E 184 X5 := dA (by kernel_rfl) (by kernel_rfl) rfl
theorem e186(args:List DV)(h:aA):fc D 186 args h=dE (ev D) UG args h:=Vs (by kernel_rfl) (by kernel_rfl) args h
theorem e190 : P0E 190 X4 := dA (by kernel_rfl) (by kernel_rfl) rfl
theorem K7 : P0E 193 Bz := dA (by kernel_rfl) (by kernel_rfl) rfl
theorem e213 : P2E 213 X3 := yZ (by kernel_rfl) (by kernel_rfl) rfl
theorem e220 : P0E 220 X1 := dA (by kernel_rfl) (by kernel_rfl) rfl
theorem e222 : P0E 222 W9 := dA (by kernel_rfl) (by kernel_rfl) rfl
theorem e233 : P1E 233 FG := dP (by kernel_rfl) (by kernel_rfl) rfl
theorem e234(args:List DV)(h:aA):fc D 234 args h=dE (ev D) yJ args h:=Vs (by kernel_rfl) (by kernel_rfl) args h
theorem e235(args:List DV)(h:aA):fc D 235 args h=dE (ev D) yH args h:=Vs (by kernel_rfl) (by kernel_rfl) args h
theorem e238(args:List DV)(h:aA):fc D 238 args h=dE (ev D) TQ args h:=Vs (by kernel_rfl) (by kernel_rfl) args h
theorem e239 : P1E 239 FF := dP (by kernel_rfl) (by kernel_rfl) rfl
theorem e240 : P0E 240 W8 := dA (by kernel_rfl) (by kernel_rfl) rfl
theorem e263 : P1E 263 W7 := dP (by kernel_rfl) (by kernel_rfl) rfl
theorem e264 : P1E 264 W6 := dP (by kernel_rfl) (by kernel_rfl) rfl
theorem e265 : P0E 265 W5 := dA (by kernel_rfl) (by kernel_rfl) rfl
theorem e276 : P0E 276 W4 := dA (by kernel_rfl) (by kernel_rfl) rfl
theorem e298 : P0E 298 W3 := dA (by kernel_rfl) (by kernel_rfl) rfl
theorem e299 : P1E 299 Xz := dP (by kernel_rfl) (by kernel_rfl) rfl
theorem e325(args:List DV)(h:aA):fc D 325 args h=dE (ev D) SX args h:=Vs (by kernel_rfl) (by kernel_rfl) args h
theorem e328 : P0E 328 W2 := dA (by kernel_rfl) (by kernel_rfl) rfl
theorem e336(args:List DV)(h:aA):fc D 336 args h=cX h args:=gN (by kernel_rfl) args h
theorem e296(args:List DV)(h:aA):fc D 296 args h=cX h args:=gN (by kernel_rfl) args h
theorem e290(args:List DV)(h:aA):fc D 290 args h=cX h args:=gN (by kernel_rfl) args h
theorem e288(args:List DV)(h:aA):fc D 288 args h=cX h args:=gN (by kernel_rfl) args h
theorem e243(args:List DV)(h:aA):fc D 243 args h=cX h args:=gN (by kernel_rfl) args h
theorem e339(args:List DV)(h:aA):fc D 339 args h=nT h args:=gN (by kernel_rfl) args h
theorem e62(args:List DV)(h:aA):fc D 62 args h=asHook 57 140 137 143 h args:=gN (by kernel_rfl) args h
theorem e142(args:List DV)(h:aA):fc D 142 args h=rX h args:=gN (by kernel_rfl) args h
theorem e102(args:List DV)(h:aA):fc D 102 args h=pD 103 h args:=gN (by kernel_rfl) args h
theorem e92(args:List DV)(h:aA):fc D 92 args h=bW 134 3 40 h args:=gN (by kernel_rfl) args h
theorem e91(args:List DV)(h:aA):fc D 91 args h=bW 70 7 72 h args:=gN (by kernel_rfl) args h
theorem e90(args:List DV)(h:aA):fc D 90 args h=bW 45 2 16 h args:=gN (by kernel_rfl) args h
theorem e89(args:List DV)(h:aA):fc D 89 args h=bW 68 4 48 h args:=gN (by kernel_rfl) args h
theorem e88(args:List DV)(h:aA):fc D 88 args h=bW 3 1 8 h args:=gN (by kernel_rfl) args h
theorem e173(args:List DV)(h:aA):fc D 173 args h=oY 86 2 16 h args:=gN (by kernel_rfl) args h
theorem e93(args:List DV)(h:aA):fc D 93 args h=bW 180 4 32 h args:=gN (by kernel_rfl) args h
end Go.Dm.Tc
