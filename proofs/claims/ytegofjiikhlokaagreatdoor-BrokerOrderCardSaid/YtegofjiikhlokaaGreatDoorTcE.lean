/- A part of the proof. -/
import Derived.Test.YtegofjiikhlokaaGreatDoorTc
import Derived.Test.YtegofjiikhlokaaGreatDoorMm4
namespace Go.Dm.Tc
abbrev P0E(k : Nat)(t : aQ) : Prop := ∀ (args : List DV) (h : aA), fc D k args h = Gv D t h (args.mapM (resolve true h cW))
theorem e4 : P0E 4 t4 := bA (by kernel_rfl) (by kernel_rfl) rfl
theorem e7 : P0E 7 t7 := bA (by kernel_rfl) (by kernel_rfl) rfl
theorem e8 : P0E 8 t8 := bA (by kernel_rfl) (by kernel_rfl) rfl
theorem e9 : P0E 9 t9 := bA (by kernel_rfl) (by kernel_rfl) rfl
abbrev P1E(k : Nat)(t : aQ) : Prop := ∀ (args : List DV) (h : aA), fc D k args h = BW D t (vQ jH h args)
theorem e10 : P1E 10 t10 := iN (by kernel_rfl) (by kernel_rfl) rfl
theorem e12 : P0E 12 t12 := bA (by kernel_rfl) (by kernel_rfl) rfl
theorem e13 : P0E 13 t13 := bA (by kernel_rfl) (by kernel_rfl) rfl
theorem e14 : P0E 14 t14 := bA (by kernel_rfl) (by kernel_rfl) rfl
theorem e16 : P0E 16 t16 := bA (by kernel_rfl) (by kernel_rfl) rfl
theorem e23 : P1E 23 t23 := iN (by kernel_rfl) (by kernel_rfl) rfl
theorem e27 : P0E 27 t27 := bA (by kernel_rfl) (by kernel_rfl) rfl
theorem e28 : P0E 28 t28 := bA (by kernel_rfl) (by kernel_rfl) rfl
theorem e29 : P1E 29 t29 := iN (by kernel_rfl) (by kernel_rfl) rfl
theorem e30 : P1E 30 t30 := iN (by kernel_rfl) (by kernel_rfl) rfl
theorem e31 : P1E 31 t31 := iN (by kernel_rfl) (by kernel_rfl) rfl
theorem e32 : P0E 32 t32 := bA (by kernel_rfl) (by kernel_rfl) rfl
theorem e33 : P1E 33 t33 := iN (by kernel_rfl) (by kernel_rfl) rfl
theorem e34 : P1E 34 t34 := iN (by kernel_rfl) (by kernel_rfl) rfl
theorem e35 : P1E 35 t35 := iN (by kernel_rfl) (by kernel_rfl) rfl
theorem e36 : P1E 36 t36 := iN (by kernel_rfl) (by kernel_rfl) rfl
theorem e37 : P1E 37 t37 := iN (by kernel_rfl) (by kernel_rfl) rfl
theorem e41 : P0E 41 t41 := bA (by kernel_rfl) (by kernel_rfl) rfl
theorem e42 : P0E 42 t42 := bA (by kernel_rfl) (by kernel_rfl) rfl
theorem e43 : P0E 43 t43 := bA (by kernel_rfl) (by kernel_rfl) rfl
theorem e45 : P0E 45 t45 := bA (by kernel_rfl) (by kernel_rfl) rfl
theorem e46 : P0E 46 t46 := bA (by kernel_rfl) (by kernel_rfl) rfl
theorem e47 : P0E 47 t47 := bA (by kernel_rfl) (by kernel_rfl) rfl
theorem e48 : P0E 48 t48 := bA (by kernel_rfl) (by kernel_rfl) rfl
theorem e49 : P0E 49 t49 := bA (by kernel_rfl) (by kernel_rfl) rfl
theorem e50 : P0E 50 t50 := bA (by kernel_rfl) (by kernel_rfl) rfl
theorem e51 : P0E 51 t51 := bA (by kernel_rfl) (by kernel_rfl) rfl
theorem e52 : P0E 52 t52 := bA (by kernel_rfl) (by kernel_rfl) rfl
theorem e53 : P0E 53 t53 := bA (by kernel_rfl) (by kernel_rfl) rfl
theorem e55 : P0E 55 t55 := bA (by kernel_rfl) (by kernel_rfl) rfl
theorem e59 : P1E 59 t59 := iN (by kernel_rfl) (by kernel_rfl) rfl
theorem e60 : P1E 60 t60 := iN (by kernel_rfl) (by kernel_rfl) rfl
theorem e61 : P1E 61 t61 := iN (by kernel_rfl) (by kernel_rfl) rfl
theorem e70 : P0E 70 t70 := bA (by kernel_rfl) (by kernel_rfl) rfl
theorem e77 : P0E 77 t77 := bA (by kernel_rfl) (by kernel_rfl) rfl
theorem e78 : P0E 78 t78 := bA (by kernel_rfl) (by kernel_rfl) rfl
theorem e84 : P0E 84 t84 := bA (by kernel_rfl) (by kernel_rfl) rfl
theorem e89 : P0E 89 t89 := bA (by kernel_rfl) (by kernel_rfl) rfl
theorem e90 : P0E 90 t90 := bA (by kernel_rfl) (by kernel_rfl) rfl
theorem e91 : P0E 91 t91 := bA (by kernel_rfl) (by kernel_rfl) rfl
theorem e92 : P0E 92 t92 := bA (by kernel_rfl) (by kernel_rfl) rfl
theorem e93 : P0E 93 t93 := bA (by kernel_rfl) (by kernel_rfl) rfl
theorem e94 : P0E 94 t94 := bA (by kernel_rfl) (by kernel_rfl) rfl
theorem e95 : P0E 95 t95 := bA (by kernel_rfl) (by kernel_rfl) rfl
theorem e96 : P1E 96 t96 := iN (by kernel_rfl) (by kernel_rfl) rfl
theorem e97 : P0E 97 t97 := bA (by kernel_rfl) (by kernel_rfl) rfl
theorem e98 : P1E 98 t98 := iN (by kernel_rfl) (by kernel_rfl) rfl
theorem e99 : P1E 99 t99 := iN (by kernel_rfl) (by kernel_rfl) rfl
abbrev P2E(k : Nat)(t : aQ) : Prop := ∀ (args : List DV) (h : aA), fc D k args h = iV (ev D) t args h
theorem e100 : P2E 100 KR := oO (by kernel_rfl) (by kernel_rfl) rfl
theorem e101 : P0E 101 L3 := bA (by kernel_rfl) (by kernel_rfl) rfl
theorem e102 : P1E 102 We := iN (by kernel_rfl) (by kernel_rfl) rfl
theorem e103 : P2E 103 KQ := oO (by kernel_rfl) (by kernel_rfl) rfl
theorem y8 : P0E 104 DX := bA (by kernel_rfl) (by kernel_rfl) rfl
theorem UY : P1E 105 K8 := iN (by kernel_rfl) (by kernel_rfl) rfl
theorem y7 : P0E 106 DW := bA (by kernel_rfl) (by kernel_rfl) rfl
theorem e107 : P1E 107 Wd := iN (by kernel_rfl) (by kernel_rfl) rfl
theorem e108 : P1E 108 K7 := iN (by kernel_rfl) (by kernel_rfl) rfl
theorem e109 : P1E 109 K6 := iN (by kernel_rfl) (by kernel_rfl) rfl
theorem e110 : P0E 110 DU := bA (by kernel_rfl) (by kernel_rfl) rfl
theorem e111 : P0E 111 DT := bA (by kernel_rfl) (by kernel_rfl) rfl
theorem e113 : P2E 113 K0 := oO (by kernel_rfl) (by kernel_rfl) rfl
theorem e114 : P2E 114 J9 := oO (by kernel_rfl) (by kernel_rfl) rfl
theorem e115 : P0E 115 J7 := bA (by kernel_rfl) (by kernel_rfl) rfl
theorem e126 : P1E 126 Mv := iN (by kernel_rfl) (by kernel_rfl) rfl
theorem Dr : P0E 127 Wc := bA (by kernel_rfl) (by kernel_rfl) rfl
theorem e134 : P0E 134 Wa := bA (by kernel_rfl) (by kernel_rfl) rfl
theorem e136 : P0E 136 DS := bA (by kernel_rfl) (by kernel_rfl) rfl
theorem e138 : P0E 138 zD := bA (by kernel_rfl) (by kernel_rfl) rfl
theorem y6 : P0E 139 DR := bA (by kernel_rfl) (by kernel_rfl) rfl
theorem HG : P0E 141 DQ := bA (by kernel_rfl) (by kernel_rfl) rfl
theorem e142 : P0E 142 J3 := bA (by kernel_rfl) (by kernel_rfl) rfl
theorem e143 : P0E 143 DP := bA (by kernel_rfl) (by kernel_rfl) rfl
theorem e144 : P0E 144 DN := bA (by kernel_rfl) (by kernel_rfl) rfl
theorem x8 : P0E 145 DM := bA (by kernel_rfl) (by kernel_rfl) rfl
theorem e146 : P0E 146 DL := bA (by kernel_rfl) (by kernel_rfl) rfl
theorem Ly : P0E 147 DK := bA (by kernel_rfl) (by kernel_rfl) rfl
theorem HF : P0E 148 DJ := bA (by kernel_rfl) (by kernel_rfl) rfl
theorem e149 : P1E 149 Qu := iN (by kernel_rfl) (by kernel_rfl) rfl
theorem e150 : P0E 150 DI := bA (by kernel_rfl) (by kernel_rfl) rfl
theorem e151 : P2E 151 KM := oO (by kernel_rfl) (by kernel_rfl) rfl
theorem e152(args:List DV)(h:aA):fc D 152 args h=dW (ev D) Aj args h:=BT (by kernel_rfl) (by kernel_rfl) args h
theorem e153(args:List DV)(h:aA):fc D 153 args h=dW (ev D) Ai args h:=BT (by kernel_rfl) (by kernel_rfl) args h
theorem e154 : P0E 154 DH := bA (by kernel_rfl) (by kernel_rfl) rfl
theorem Hk : P0E 156 DG := bA (by kernel_rfl) (by kernel_rfl) rfl
theorem e157(args:List DV)(h:aA):fc D 157 args h=dW (ev D) Ah args h:=BT (by kernel_rfl) (by kernel_rfl) args h
theorem e158 : P2E 158 DF := oO (by kernel_rfl) (by kernel_rfl) rfl
theorem e159 : P2E 159 DE := oO (by kernel_rfl) (by kernel_rfl) rfl
theorem e160 : P0E 160 DD := bA (by kernel_rfl) (by kernel_rfl) rfl
theorem e161 : P1E 161 I7 := iN (by kernel_rfl) (by kernel_rfl) rfl
theorem UX : P0E 162 Qr := bA (by kernel_rfl) (by kernel_rfl) rfl
theorem e163 : P2E 163 I5 := oO (by kernel_rfl) (by kernel_rfl) rfl
theorem e164 : P2E 164 I4 := oO (by kernel_rfl) (by kernel_rfl) rfl
theorem Bl : P0E 165 KL := bA (by kernel_rfl) (by kernel_rfl) rfl
theorem Lx : P0E 166 DC := bA (by kernel_rfl) (by kernel_rfl) rfl
theorem x6 : P0E 173 Qn := bA (by kernel_rfl) (by kernel_rfl) rfl
theorem UW : P0E 177 DB := bA (by kernel_rfl) (by kernel_rfl) rfl
theorem e178 : P0E 178 DA := bA (by kernel_rfl) (by kernel_rfl) rfl
theorem e180 : P0E 180 CZ := bA (by kernel_rfl) (by kernel_rfl) rfl
theorem e181 : P0E 181 CY := bA (by kernel_rfl) (by kernel_rfl) rfl
theorem e182 : P0E 182 Gy := bA (by kernel_rfl) (by kernel_rfl) rfl
theorem e183 : P0E 183 zC := bA (by kernel_rfl) (by kernel_rfl) rfl
theorem e184 : P0E 184 H8 := bA (by kernel_rfl) (by kernel_rfl) rfl
theorem e192 : P0E 192 CX := bA (by kernel_rfl) (by kernel_rfl) rfl
theorem e193 : P0E 193 CW := bA (by kernel_rfl) (by kernel_rfl) rfl
theorem e194 : P0E 194 CV := bA (by kernel_rfl) (by kernel_rfl) rfl
theorem e195 : P0E 195 Vz := bA (by kernel_rfl) (by kernel_rfl) rfl
theorem e198 : P2E 198 CU := oO (by kernel_rfl) (by kernel_rfl) rfl
theorem w9 : P0E 199 CT := bA (by kernel_rfl) (by kernel_rfl) rfl
theorem A7 : P0E 200 Ae := bA (by kernel_rfl) (by kernel_rfl) rfl
theorem e201 : P2E 201 G7 := oO (by kernel_rfl) (by kernel_rfl) rfl
theorem e207 : P0E 207 CS := bA (by kernel_rfl) (by kernel_rfl) rfl
theorem UV : P0E 212 G6 := bA (by kernel_rfl) (by kernel_rfl) rfl
theorem w8 : P0E 213 CR := bA (by kernel_rfl) (by kernel_rfl) rfl
theorem A6 : P0E 214 CQ := bA (by kernel_rfl) (by kernel_rfl) rfl
theorem e215 : P0E 215 Gx := bA (by kernel_rfl) (by kernel_rfl) rfl
theorem UU : P0E 218 CP := bA (by kernel_rfl) (by kernel_rfl) rfl
theorem e219 : P0E 219 CO := bA (by kernel_rfl) (by kernel_rfl) rfl
theorem e220 : P0E 220 CN := bA (by kernel_rfl) (by kernel_rfl) rfl
theorem e221 : P0E 221 zA := bA (by kernel_rfl) (by kernel_rfl) rfl
theorem e222(args:List DV)(h:aA):fc D 222 args h=dW (ev D) Ad args h:=BT (by kernel_rfl) (by kernel_rfl) args h
theorem e223 : P0E 223 CM := bA (by kernel_rfl) (by kernel_rfl) rfl
theorem e230 : P0E 230 G4 := bA (by kernel_rfl) (by kernel_rfl) rfl
theorem e233 : P0E 233 CL := bA (by kernel_rfl) (by kernel_rfl) rfl
theorem e234(args:List DV)(h:aA):fc D 234 args h=eD h args:=qA (by kernel_rfl) args h
theorem e196(args:List DV)(h:aA):fc D 196 args h=eD h args:=qA (by kernel_rfl) args h
theorem e190(args:List DV)(h:aA):fc D 190 args h=eD h args:=qA (by kernel_rfl) args h
theorem e188(args:List DV)(h:aA):fc D 188 args h=eD h args:=qA (by kernel_rfl) args h
theorem e238(args:List DV)(h:aA):fc D 238 args h=nR h args:=qA (by kernel_rfl) args h
theorem e187(args:List DV)(h:aA):fc D 187 args h=dN 98 3 40 h args:=qA (by kernel_rfl) args h
theorem e186(args:List DV)(h:aA):fc D 186 args h=dN 40 2 16 h args:=qA (by kernel_rfl) args h
theorem e185(args:List DV)(h:aA):fc D 185 args h=dN 93 4 48 h args:=qA (by kernel_rfl) args h
theorem x7(args:List DV)(h:aA):fc D 155 args h=dN 114 7 72 h args:=qA (by kernel_rfl) args h
theorem e112(args:List DV)(h:aA):fc D 112 args h=dN 3 1 8 h args:=qA (by kernel_rfl) args h
end Go.Dm.Tc
