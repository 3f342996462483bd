/- A part of the proof. -/
import Derived.Test.YtfkbogedodngeaaGreatDoorTc
import Derived.Test.YtfkbogedodngeaaGreatDoorMm5
namespace Go.Dm.Tc
abbrev P0E(k : Nat)(t : aS) : Prop := ∀ (args : List DV) (h : aA), fc D k args h = tP D t h (args.mapM (resolve true h cO))
theorem e4 : P0E 4 t4 := aY (by kernel_rfl) (by kernel_rfl) rfl
theorem e9 : P0E 9 t9 := aY (by kernel_rfl) (by kernel_rfl) rfl
theorem e10 : P0E 10 t10 := aY (by kernel_rfl) (by kernel_rfl) rfl
theorem e15 : P0E 15 t15 := aY (by kernel_rfl) (by kernel_rfl) rfl
theorem e16 : P0E 16 t16 := aY (by kernel_rfl) (by kernel_rfl) rfl
theorem e17 : P0E 17 t17 := aY (by kernel_rfl) (by kernel_rfl) rfl
theorem e18 : P0E 18 t18 := aY (by kernel_rfl) (by kernel_rfl) rfl
abbrev P1E(k : Nat)(t : aS) : Prop := ∀ (args : List DV) (h : aA), fc D k args h = kY (ev D) t args h
theorem e20 : P1E 20 t20 := Gh (by kernel_rfl) (by kernel_rfl) rfl
theorem e21 : P1E 21 t21 := Gh (by kernel_rfl) (by kernel_rfl) rfl
theorem e22 : P0E 22 t22 := aY (by kernel_rfl) (by kernel_rfl) rfl
theorem e26 : P0E 26 t26 := aY (by kernel_rfl) (by kernel_rfl) rfl
theorem e30 : P0E 30 t30 := aY (by kernel_rfl) (by kernel_rfl) rfl
theorem e43 : P0E 43 t43 := aY (by kernel_rfl) (by kernel_rfl) rfl
abbrev P2E(k : Nat)(t : aS) : Prop := ∀ (args : List DV) (h : aA), fc D k args h = Y1 D t (uN iR h args)
theorem e44 : P2E 44 t44 := pU (by kernel_rfl) (by kernel_rfl) rfl
theorem e45 : P2E 45 t45 := pU (by kernel_rfl) (by kernel_rfl) rfl
theorem e46 : P2E 46 t46 := pU (by kernel_rfl) (by kernel_rfl) rfl
theorem e47 : P2E 47 t47 := pU (by kernel_rfl) (by kernel_rfl) rfl
theorem e49 : P0E 49 t49 := aY (by kernel_rfl) (by kernel_rfl) rfl
theorem e63 : P1E 63 t63 := Gh (by kernel_rfl) (by kernel_rfl) rfl
theorem e66 : P0E 66 t66 := aY (by kernel_rfl) (by kernel_rfl) rfl
theorem e67 : P0E 67 t67 := aY (by kernel_rfl) (by kernel_rfl) rfl
theorem e72 : P0E 72 t72 := aY (by kernel_rfl) (by kernel_rfl) rfl
theorem e80 : P0E 80 t80 := aY (by kernel_rfl) (by kernel_rfl) rfl
theorem e81 : P0E 81 t81 := aY (by kernel_rfl) (by kernel_rfl) rfl
theorem e86 : P0E 86 t86 := aY (by kernel_rfl) (by kernel_rfl) rfl
theorem w7 : P0E 103 Hh := aY (by kernel_rfl) (by kernel_rfl) rfl
theorem SD : P0E 104 Cv := aY (by kernel_rfl) (by kernel_rfl) rfl
theorem XW : P0E 105 wA := aY (by kernel_rfl) (by kernel_rfl) rfl
theorem Ke : P0E 112 Ue := aY (by kernel_rfl) (by kernel_rfl) rfl
theorem Sl : P0E 113 BN := aY (by kernel_rfl) (by kernel_rfl) rfl
theorem Yo : P2E 114 zI := pU (by kernel_rfl) (by kernel_rfl) rfl
theorem LY : P0E 115 BM := aY (by kernel_rfl) (by kernel_rfl) rfl
theorem SC : P2E 116 D5 := pU (by kernel_rfl) (by kernel_rfl) rfl
theorem v9 : P2E 117 Pz := pU (by kernel_rfl) (by kernel_rfl) rfl
theorem e118 : P1E 118 HO := Gh (by kernel_rfl) (by kernel_rfl) rfl
theorem e119 : P2E 119 D3 := pU (by kernel_rfl) (by kernel_rfl) rfl
theorem e120 : P2E 120 D2 := pU (by kernel_rfl) (by kernel_rfl) rfl
theorem e121 : P2E 121 BL := pU (by kernel_rfl) (by kernel_rfl) rfl
theorem LX : P0E 125 BK := aY (by kernel_rfl) (by kernel_rfl) rfl
theorem FB : P0E 144 BJ := aY (by kernel_rfl) (by kernel_rfl) rfl
theorem e145 : P0E 145 BI := aY (by kernel_rfl) (by kernel_rfl) rfl
theorem LW : P0E 146 BH := aY (by kernel_rfl) (by kernel_rfl) rfl
theorem XV : P0E 147 BG := aY (by kernel_rfl) (by kernel_rfl) rfl
theorem SB : P0E 148 BF := aY (by kernel_rfl) (by kernel_rfl) rfl
theorem e149 : P0E 149 BE := aY (by kernel_rfl) (by kernel_rfl) rfl
theorem XU : P0E 150 BD := aY (by kernel_rfl) (by kernel_rfl) rfl
theorem e151 : P0E 151 BC := aY (by kernel_rfl) (by kernel_rfl) rfl
theorem v8 : P0E 152 BB := aY (by kernel_rfl) (by kernel_rfl) rfl
theorem e153 : P0E 153 BA := aY (by kernel_rfl) (by kernel_rfl) rfl
theorem SA : P0E 154 AZ := aY (by kernel_rfl) (by kernel_rfl) rfl
theorem e155 : P0E 155 AY := aY (by kernel_rfl) (by kernel_rfl) rfl
theorem e156 : P0E 156 AX := aY (by kernel_rfl) (by kernel_rfl) rfl
theorem e157 : P0E 157 AW := aY (by kernel_rfl) (by kernel_rfl) rfl
theorem Yn : P0E 158 D0 := aY (by kernel_rfl) (by kernel_rfl) rfl
theorem v7 : P0E 159 AV := aY (by kernel_rfl) (by kernel_rfl) rfl
theorem e160 : P0E 160 AU := aY (by kernel_rfl) (by kernel_rfl) rfl
theorem e161 : P0E 161 Cu := aY (by kernel_rfl) (by kernel_rfl) rfl
theorem e162 : P0E 162 AT := aY (by kernel_rfl) (by kernel_rfl) rfl
theorem e163 : P0E 163 AS := aY (by kernel_rfl) (by kernel_rfl) rfl
theorem u9 : P0E 164 AR := aY (by kernel_rfl) (by kernel_rfl) rfl
theorem u7 : P0E 179 AQ := aY (by kernel_rfl) (by kernel_rfl) rfl
theorem e183 : P0E 183 AP := aY (by kernel_rfl) (by kernel_rfl) rfl
theorem e184 : P0E 184 AO := aY (by kernel_rfl) (by kernel_rfl) rfl
theorem P7 : P0E 193 Ct := aY (by kernel_rfl) (by kernel_rfl) rfl
theorem u6 : P0E 195 AN := aY (by kernel_rfl) (by kernel_rfl) rfl
theorem Ce : P0E 196 Ud := aY (by kernel_rfl) (by kernel_rfl) rfl
theorem Kd : P0E 197 AM := aY (by kernel_rfl) (by kernel_rfl) rfl
theorem FA : P0E 198 AL := aY (by kernel_rfl) (by kernel_rfl) rfl
theorem t8 : P2E 199 Ph := pU (by kernel_rfl) (by kernel_rfl) rfl
theorem t7 : P0E 200 AK := aY (by kernel_rfl) (by kernel_rfl) rfl
theorem t6 : P2E 201 Kx := pU (by kernel_rfl) (by kernel_rfl) rfl
theorem RZ : P0E 203 yH := aY (by kernel_rfl) (by kernel_rfl) rfl
theorem Kc : P0E 204 AJ := aY (by kernel_rfl) (by kernel_rfl) rfl
theorem e219 : P0E 219 AI := aY (by kernel_rfl) (by kernel_rfl) rfl
theorem e220 : P0E 220 AH := aY (by kernel_rfl) (by kernel_rfl) rfl
theorem e221 : P0E 221 AG := aY (by kernel_rfl) (by kernel_rfl) rfl
theorem e222 : P0E 222 AF := aY (by kernel_rfl) (by kernel_rfl) rfl
theorem e223 : P0E 223 AE := aY (by kernel_rfl) (by kernel_rfl) rfl
theorem e224 : P0E 224 AD := aY (by kernel_rfl) (by kernel_rfl) rfl
theorem e225 : P0E 225 AC := aY (by kernel_rfl) (by kernel_rfl) rfl
theorem e226 : P0E 226 AB := aY (by kernel_rfl) (by kernel_rfl) rfl
theorem s8 : P0E 257 yG := aY (by kernel_rfl) (by kernel_rfl) rfl
theorem s7 : P0E 258 B6 := aY (by kernel_rfl) (by kernel_rfl) rfl
theorem XT : P0E 259 Ot := aY (by kernel_rfl) (by kernel_rfl) rfl
theorem e276 : P0E 276 AA := aY (by kernel_rfl) (by kernel_rfl) rfl
theorem e277 : P0E 277 Z9 := aY (by kernel_rfl) (by kernel_rfl) rfl
theorem s6 : P0E 278 Fe := aY (by kernel_rfl) (by kernel_rfl) rfl
theorem e302 : P0E 302 On := aY (by kernel_rfl) (by kernel_rfl) rfl
theorem RY : P0E 308 B2 := aY (by kernel_rfl) (by kernel_rfl) rfl
theorem e309 : P0E 309 Fd := aY (by kernel_rfl) (by kernel_rfl) rfl
theorem p9 : P0E 314 Z8 := aY (by kernel_rfl) (by kernel_rfl) rfl
theorem e315 : P0E 315 Z7 := aY (by kernel_rfl) (by kernel_rfl) rfl
theorem e332 : P0E 332 B1 := aY (by kernel_rfl) (by kernel_rfl) rfl
theorem e62(args:List DV)(h:aA):fc D 62 args h=asHook 57 140 137 143 h args:=mB (by kernel_rfl) args h
theorem e142(args:List DV)(h:aA):fc D 142 args h=sW h args:=mB (by kernel_rfl) args h
theorem e102(args:List DV)(h:aA):fc D 102 args h=qJ 103 h args:=mB (by kernel_rfl) args h
theorem e180(args:List DV)(h:aA):fc D 180 args h=uR 49 7 88 h args:=mB (by kernel_rfl) args h
theorem e93(args:List DV)(h:aA):fc D 93 args h=eK 180 4 32 h args:=mB (by kernel_rfl) args h
theorem e99(args:List DV)(h:aA):fc D 99 args h=eK 37 6 128 h args:=mB (by kernel_rfl) args h
theorem e173(args:List DV)(h:aA):fc D 173 args h=uR 86 2 16 h args:=mB (by kernel_rfl) args h
theorem e92(args:List DV)(h:aA):fc D 92 args h=eK 134 3 40 h args:=mB (by kernel_rfl) args h
theorem e91(args:List DV)(h:aA):fc D 91 args h=eK 70 7 72 h args:=mB (by kernel_rfl) args h
theorem e90(args:List DV)(h:aA):fc D 90 args h=eK 45 2 16 h args:=mB (by kernel_rfl) args h
theorem e89(args:List DV)(h:aA):fc D 89 args h=eK 68 4 48 h args:=mB (by kernel_rfl) args h
theorem e88(args:List DV)(h:aA):fc D 88 args h=eK 3 1 8 h args:=mB (by kernel_rfl) args h
end Go.Dm.Tc
