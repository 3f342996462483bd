/- A part of the proof. -/
import Derived.Test.YtloabemenciijaaGreatDoorTc
import Derived.Test.YtloabemenciijaaGreatDoorMm5
namespace Go.Dm.Tc
abbrev P0E(k : Nat)(t : aD) : Prop := ∀ (args : List DV) (h : aA), fc D k args h = nA D t h (args.mapM (resolve true h aW))
theorem e7 : P0E 7 t7 := eI (by kernel_rfl) (by kernel_rfl) rfl
theorem e8 : P0E 8 t8 := eI (by kernel_rfl) (by kernel_rfl) rfl
theorem e13 : P0E 13 t13 := eI (by kernel_rfl) (by kernel_rfl) rfl
theorem e40 : P0E 40 t40 := eI (by kernel_rfl) (by kernel_rfl) rfl
theorem e41 : P0E 41 t41 := eI (by kernel_rfl) (by kernel_rfl) rfl
theorem e42 : P0E 42 t42 := eI (by kernel_rfl) (by kernel_rfl) rfl
theorem SR : P0E 106 vM := eI (by kernel_rfl) (by kernel_rfl) rfl
abbrev P1E(k : Nat)(t : aD) : Prop := ∀ (args : List DV) (h : aA), fc D k args h = fW (ev D) t args h
theorem UP : P1E 127 Iw := Uy (by kernel_rfl) (by kernel_rfl) rfl
theorem UO : P0E 128 Iv := eI (by kernel_rfl) (by kernel_rfl) rfl
theorem UN : P0E 129 Ow := eI (by kernel_rfl) (by kernel_rfl) rfl
theorem SP : P0E 131 yT := eI (by kernel_rfl) (by kernel_rfl) rfl
theorem SO : P0E 132 pF := eI (by kernel_rfl) (by kernel_rfl) rfl
theorem SN : P1E 133 Iu := Uy (by kernel_rfl) (by kernel_rfl) rfl
theorem UM : P0E 217 Vv := eI (by kernel_rfl) (by kernel_rfl) rfl
theorem So : P0E 220 vL := eI (by kernel_rfl) (by kernel_rfl) rfl
theorem e231(args:List DV)(h:aA):fc D 231 args h=cS (ev D) GE args h:=Ml (by kernel_rfl) (by kernel_rfl) args h
theorem e246(args:List DV)(h:aA):fc D 246 args h=cS (ev D) FX args h:=Ml (by kernel_rfl) (by kernel_rfl) args h
theorem e247(args:List DV)(h:aA):fc D 247 args h=cS (ev D) FW args h:=Ml (by kernel_rfl) (by kernel_rfl) args h
theorem e250(args:List DV)(h:aA):fc D 250 args h=cS (ev D) FV args h:=Ml (by kernel_rfl) (by kernel_rfl) args h
theorem e350(args:List DV)(h:aA):fc D 350 args h=cS (ev D) EM args h:=Ml (by kernel_rfl) (by kernel_rfl) args h
theorem e293(args:List DV)(h:aA):fc D 293 args h=cI h args:=dO (by kernel_rfl) args h
theorem e314(args:List DV)(h:aA):fc D 314 args h=cI h args:=dO (by kernel_rfl) args h
theorem e308(args:List DV)(h:aA):fc D 308 args h=cI h args:=dO (by kernel_rfl) args h
theorem e306(args:List DV)(h:aA):fc D 306 args h=cI h args:=dO (by kernel_rfl) args h
theorem e370(args:List DV)(h:aA):fc D 370 args h=cI h args:=dO (by kernel_rfl) args h
theorem e374(args:List DV)(h:aA):fc D 374 args h=jU h args:=dO (by kernel_rfl) args h
theorem e75(args:List DV)(h:aA):fc D 75 args h=asHook 57 157 154 160 h args:=dO (by kernel_rfl) args h
theorem e178(args:List DV)(h:aA):fc D 178 args h=mP h args:=dO (by kernel_rfl) args h
theorem SQ(args:List DV)(h:aA):fc D 130 args h=kQ 131 h args:=dO (by kernel_rfl) args h
theorem e150(args:List DV)(h:aA):fc D 150 args h=bL 45 2 16 h args:=dO (by kernel_rfl) args h
theorem e149(args:List DV)(h:aA):fc D 149 args h=bL 86 4 48 h args:=dO (by kernel_rfl) args h
theorem e152(args:List DV)(h:aA):fc D 152 args h=bL 151 3 40 h args:=dO (by kernel_rfl) args h
theorem e151(args:List DV)(h:aA):fc D 151 args h=bL 88 7 72 h args:=dO (by kernel_rfl) args h
theorem e358(args:List DV)(h:aA):fc D 358 args h=bL 420 2 32 h args:=dO (by kernel_rfl) args h
theorem e354(args:List DV)(h:aA):fc D 354 args h=bL 171 4 48 h args:=dO (by kernel_rfl) args h
theorem e225(args:List DV)(h:aA):fc D 225 args h=nX 49 7 88 h args:=dO (by kernel_rfl) args h
theorem e153(args:List DV)(h:aA):fc D 153 args h=bL 248 4 32 h args:=dO (by kernel_rfl) args h
theorem e158(args:List DV)(h:aA):fc D 158 args h=bL 37 6 128 h args:=dO (by kernel_rfl) args h
theorem e277(args:List DV)(h:aA):fc D 277 args h=bL 176 4 48 h args:=dO (by kernel_rfl) args h
theorem e148(args:List DV)(h:aA):fc D 148 args h=bL 3 1 8 h args:=dO (by kernel_rfl) args h
theorem e223(args:List DV)(h:aA):fc D 223 args h=nX 90 2 16 h args:=dO (by kernel_rfl) args h
end Go.Dm.Tc
