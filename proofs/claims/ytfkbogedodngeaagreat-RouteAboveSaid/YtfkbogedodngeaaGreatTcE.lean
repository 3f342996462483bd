/- A part of the proof. -/
import Derived.Test.YtfkbogedodngeaaGreatTc
import Derived.Test.YtfkbogedodngeaaGreatMm5
namespace Go.Dm.Tc
abbrev P0E(k : Nat)(t : aV) : Prop := ∀ (args : List DV) (h : aA), fc D k args h = sN D t h (args.mapM (resolve true h cG))
theorem e3 : P0E 3 t3 := bK (by kernel_rfl) (by kernel_rfl) rfl
abbrev P1E(k : Nat)(t : aV) : Prop := ∀ (args : List DV) (h : aA), fc D k args h = I7 D t (tJ gP h args)
theorem e6 : P1E 6 t6 := tX (by kernel_rfl) (by kernel_rfl) rfl
theorem e7 : P0E 7 t7 := bK (by kernel_rfl) (by kernel_rfl) rfl
theorem e8 : P0E 8 t8 := bK (by kernel_rfl) (by kernel_rfl) rfl
theorem e9 : P0E 9 t9 := bK (by kernel_rfl) (by kernel_rfl) rfl
theorem e10 : P1E 10 t10 := tX (by kernel_rfl) (by kernel_rfl) rfl
theorem e11 : P1E 11 t11 := tX (by kernel_rfl) (by kernel_rfl) rfl
theorem e12 : P1E 12 t12 := tX (by kernel_rfl) (by kernel_rfl) rfl
theorem e13 : P1E 13 t13 := tX (by kernel_rfl) (by kernel_rfl) rfl
theorem e14 : P0E 14 t14 := bK (by kernel_rfl) (by kernel_rfl) rfl
theorem e15 : P0E 15 t15 := bK (by kernel_rfl) (by kernel_rfl) rfl
theorem e16 : P0E 16 t16 := bK (by kernel_rfl) (by kernel_rfl) rfl
abbrev P2E(k : Nat)(t : aV) : Prop := ∀ (args : List DV) (h : aA), fc D k args h = fL (ev D) t args h
theorem e31 : P2E 31 t31 := Oo (by kernel_rfl) (by kernel_rfl) rfl
theorem e32 : P0E 32 t32 := bK (by kernel_rfl) (by kernel_rfl) rfl
theorem e33 : P0E 33 t33 := bK (by kernel_rfl) (by kernel_rfl) rfl
theorem e34(args:List DV)(h:aA):fc D 34 args h=cX (ev D) t34 args h:=Tt (by kernel_rfl) (by kernel_rfl) args h
theorem e35(args:List DV)(h:aA):fc D 35 args h=cX (ev D) t35 args h:=Tt (by kernel_rfl) (by kernel_rfl) args h
theorem e39 : P0E 39 t39 := bK (by kernel_rfl) (by kernel_rfl) rfl
theorem e40 : P0E 40 t40 := bK (by kernel_rfl) (by kernel_rfl) rfl
theorem e41 : P0E 41 t41 := bK (by kernel_rfl) (by kernel_rfl) rfl
theorem e42 : P0E 42 t42 := bK (by kernel_rfl) (by kernel_rfl) rfl
theorem e43(args:List DV)(h:aA):fc D 43 args h=cX (ev D) t43 args h:=Tt (by kernel_rfl) (by kernel_rfl) args h
theorem e45 : P0E 45 t45 := bK (by kernel_rfl) (by kernel_rfl) rfl
theorem e46 : P1E 46 t46 := tX (by kernel_rfl) (by kernel_rfl) rfl
theorem e47 : P2E 47 t47 := Oo (by kernel_rfl) (by kernel_rfl) rfl
theorem e48 : P1E 48 t48 := tX (by kernel_rfl) (by kernel_rfl) rfl
theorem e49 : P0E 49 t49 := bK (by kernel_rfl) (by kernel_rfl) rfl
theorem e52 : P0E 52 t52 := bK (by kernel_rfl) (by kernel_rfl) rfl
theorem e66 : P0E 66 t66 := bK (by kernel_rfl) (by kernel_rfl) rfl
theorem e75 : P0E 75 t75 := bK (by kernel_rfl) (by kernel_rfl) rfl
theorem e76 : P0E 76 t76 := bK (by kernel_rfl) (by kernel_rfl) rfl
theorem e77 : P0E 77 t77 := bK (by kernel_rfl) (by kernel_rfl) rfl
theorem e78 : P0E 78 t78 := bK (by kernel_rfl) (by kernel_rfl) rfl
theorem e85 : P0E 85 t85 := bK (by kernel_rfl) (by kernel_rfl) rfl
theorem e86 : P0E 86 t86 := bK (by kernel_rfl) (by kernel_rfl) rfl
theorem e87 : P0E 87 t87 := bK (by kernel_rfl) (by kernel_rfl) rfl
theorem e88 : P0E 88 t88 := bK (by kernel_rfl) (by kernel_rfl) rfl
theorem e91 : P0E 91 t91 := bK (by kernel_rfl) (by kernel_rfl) rfl
theorem e92 : P1E 92 t92 := tX (by kernel_rfl) (by kernel_rfl) rfl
theorem e93 : P0E 93 t93 := bK (by kernel_rfl) (by kernel_rfl) rfl
theorem e94 : P1E 94 t94 := tX (by kernel_rfl) (by kernel_rfl) rfl
theorem e95 : P0E 95 t95 := bK (by kernel_rfl) (by kernel_rfl) rfl
theorem e96 : P0E 96 t96 := bK (by kernel_rfl) (by kernel_rfl) rfl
theorem e97 : P0E 97 t97 := bK (by kernel_rfl) (by kernel_rfl) rfl
theorem PN : P0E 109 Aw := bK (by kernel_rfl) (by kernel_rfl) rfl
theorem PM : P0E 110 uO := bK (by kernel_rfl) (by kernel_rfl) rfl
theorem RQ : P0E 125 N0 := bK (by kernel_rfl) (by kernel_rfl) rfl
theorem UH : P0E 126 M9 := bK (by kernel_rfl) (by kernel_rfl) rfl
theorem Dl : P0E 127 M8 := bK (by kernel_rfl) (by kernel_rfl) rfl
theorem LJ : P0E 128 M7 := bK (by kernel_rfl) (by kernel_rfl) rfl
theorem UG(args:List DV)(h:aA):fc D 129 args h=cX (ev D) xN args h:=Tt (by kernel_rfl) (by kernel_rfl) args h
theorem UF : P2E 130 M6 := Oo (by kernel_rfl) (by kernel_rfl) rfl
theorem UE : P0E 131 Wj := bK (by kernel_rfl) (by kernel_rfl) rfl
theorem Zy : P0E 142 Av := bK (by kernel_rfl) (by kernel_rfl) rfl
theorem UC : P0E 151 wV := bK (by kernel_rfl) (by kernel_rfl) rfl
theorem LI : P0E 152 M5 := bK (by kernel_rfl) (by kernel_rfl) rfl
theorem UB : P0E 153 M4 := bK (by kernel_rfl) (by kernel_rfl) rfl
theorem UA : P0E 154 M3 := bK (by kernel_rfl) (by kernel_rfl) rfl
theorem RP : P0E 155 wU := bK (by kernel_rfl) (by kernel_rfl) rfl
theorem TZ(args:List DV)(h:aA):fc D 156 args h=cX (ev D) xM args h:=Tt (by kernel_rfl) (by kernel_rfl) args h
theorem TY : P0E 157 M2 := bK (by kernel_rfl) (by kernel_rfl) rfl
theorem TX : P0E 158 L9 := bK (by kernel_rfl) (by kernel_rfl) rfl
theorem TW : P0E 159 Qg := bK (by kernel_rfl) (by kernel_rfl) rfl
theorem TV : P0E 160 L8 := bK (by kernel_rfl) (by kernel_rfl) rfl
theorem TU : P0E 161 L7 := bK (by kernel_rfl) (by kernel_rfl) rfl
theorem TS : P0E 165 L6 := bK (by kernel_rfl) (by kernel_rfl) rfl
theorem Hn : P0E 171 L5 := bK (by kernel_rfl) (by kernel_rfl) rfl
theorem TR : P0E 172 L4 := bK (by kernel_rfl) (by kernel_rfl) rfl
theorem TQ(args:List DV)(h:aA):fc D 173 args h=cO h args:=kW (by kernel_rfl) args h
theorem TT(args:List DV)(h:aA):fc D 162 args h=cO h args:=kW (by kernel_rfl) args h
theorem e89(args:List DV)(h:aA):fc D 89 args h=cO h args:=kW (by kernel_rfl) args h
theorem e81(args:List DV)(h:aA):fc D 81 args h=cO h args:=kW (by kernel_rfl) args h
theorem e79(args:List DV)(h:aA):fc D 79 args h=cO h args:=kW (by kernel_rfl) args h
theorem TP(args:List DV)(h:aA):fc D 186 args h=lN h args:=kW (by kernel_rfl) args h
theorem e37(args:List DV)(h:aA):fc D 37 args h=rU h args:=kW (by kernel_rfl) args h
theorem e74(args:List DV)(h:aA):fc D 74 args h=cH 58 7 72 h args:=kW (by kernel_rfl) args h
theorem e73(args:List DV)(h:aA):fc D 73 args h=cH 24 2 16 h args:=kW (by kernel_rfl) args h
theorem e72(args:List DV)(h:aA):fc D 72 args h=cH 37 4 48 h args:=kW (by kernel_rfl) args h
theorem e44(args:List DV)(h:aA):fc D 44 args h=cH 102 3 40 h args:=kW (by kernel_rfl) args h
theorem e36(args:List DV)(h:aA):fc D 36 args h=cH 3 1 8 h args:=kW (by kernel_rfl) args h
end Go.Dm.Tc
