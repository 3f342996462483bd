/-
errors.As at the two targets of this program.
-/
import Derived.Test.YtfkbogedodngeaaGreatDoorAsB
namespace Go.Proofs.YtfkbogedodngeaaGreatDoor.Err
open Go.RowKit Go.Extern.Stop Go.Stop Go.Extern
set_option maxHeartbeats 4000000 in
set_option maxRecDepth 100000 in
theorem asE{R:Ending→World→Prop}(t0:TypeId)(x:Value)(p:Addr)(w:World)(hg:w.cell? ⟨0,0,none⟩=some (.iface 308 (.agg #[.pointer (some ⟨2,41,none⟩)])))
  (fG:∀W:World,W=((w.alloc (.cells #[.pointer (some p)] 137)).alloc (.cells #[.pointer (some ⟨2,137,none⟩),.pointer (some ⟨w.heap.size,0,none⟩),.int .u64 150] 226)) →
   Calls Tryz.prog 141 #[.iface t0 x,.iface 137 (.pointer (some p)),.agg #[.pointer (some ⟨2,137,none⟩),.pointer (some ⟨w.heap.size,0,none⟩),.int .u64 150],.iface 308 (.agg #[.pointer (some ⟨2,57,none⟩)])] W fun e w'=>∃ b:Bool,e=.returned (.bool b)∧R e w') :
  Calls Tryz.prog 62 #[.iface t0 x,.iface 137 (.pointer (some p))] w R:=by
 have h6:=@run_callFunc_extern Tryz.prog 138 _ (fun args=>ReflectliteValue.unpack (args.getD 0 (.tuple #[]))) Tryz.func138 (by kernel_rfl) (by kernel_rfl) (by kernel_rfl) (by kernel_rfl)
 have h7 := @run_callFunc_extern Tryz.prog 139 _ (ReflectliteValue.methodAny (ReflectliteValue.valueError "reflectlite.Value.Type" 0) (fun t _ _ _ => ReflectliteType.toType t)) Tryz.func139 (by kernel_rfl) (by kernel_rfl) (by kernel_rfl) (by kernel_rfl)
 have h8 := @run_callFunc_extern Tryz.prog 140 _ (ReflectliteValue.method (ReflectliteValue.valueError "reflectlite.Value.IsNil" 0) ReflectliteValue.isNil) Tryz.func140 (by kernel_rfl) (by kernel_rfl) (by kernel_rfl) (by kernel_rfl)
 have WR:=@run_callFunc_extern Tryz.prog 356 _ (ReflectliteType.abiMethod fun t=>do pure (.int .u8 (←Rtype.kind t))) Tryz.func356 (by kernel_rfl) (by kernel_rfl) (by kernel_rfl) (by kernel_rfl)
 have h37:=@run_callFunc_extern Tryz.prog 372 _ (ReflectliteType.method ReflectliteType.elem) Tryz.func372 (by kernel_rfl) (by kernel_rfl) (by kernel_rfl) (by kernel_rfl)
 have h38 := @run_callFunc_extern Tryz.prog 373 _ (ReflectliteType.relation "Implements" ReflectliteType.implements_) Tryz.func373 (by kernel_rfl) (by kernel_rfl) (by kernel_rfl) (by kernel_rfl)
 have f6:=MU
 have f7:=YA
 have mK:=Hb
 have mE:=Hc
 have mI:=sF
 have kP:=VT
 have kT:=x9
 have eP:=AaA
 have iP:=Vb
 have n8:=VW ⟨w.heap.size,0,none⟩ p ((w.alloc (.cells #[.pointer (some p)] 137)).alloc (.cells #[.pointer (some ⟨2,137,none⟩),.pointer (some ⟨w.heap.size,0,none⟩),.int .u64 150] 226)) (by simp)
 have aY:0<w.heap.size:=qZ hg
 have PO:((w.alloc (.cells #[.pointer (some p)] 137)).alloc (.cells #[.pointer (some ⟨2,137,none⟩),.pointer (some ⟨w.heap.size,0,none⟩),.int .u64 150] 226)).cell? ⟨0,0,none⟩=some (.iface 308 (.agg #[.pointer (some ⟨2,41,none⟩)])):=by
  rw[World.cell?_alloc_lt _ _ ⟨0,0,none⟩ (by simp),World.cell?_alloc_lt _ _ ⟨0,0,none⟩ aY];exact hg
 go_enter Tryz.func62,Tryz.ntmps62
 go_wp2_with (go_at_call 141;refine(fG _ (by rfl)).mono ?_;rintro e w' ⟨bb,rfl,hr⟩)
 exact hr
set_option maxHeartbeats 4000000 in
set_option maxRecDepth 100000 in
theorem asF{R:Ending→World→Prop}(t0:TypeId)(x:Value)(p:Addr)(w:World)(hg:w.cell? ⟨0,0,none⟩=some (.iface 308 (.agg #[.pointer (some ⟨2,41,none⟩)])))
  (fG:∀W:World,W=((w.alloc (.cells #[.pointer (some p)] 143)).alloc (.cells #[.pointer (some ⟨2,143,none⟩),.pointer (some ⟨w.heap.size,0,none⟩),.int .u64 150] 226)) →
   Calls Tryz.prog 141 #[.iface t0 x,.iface 143 (.pointer (some p)),.agg #[.pointer (some ⟨2,143,none⟩),.pointer (some ⟨w.heap.size,0,none⟩),.int .u64 150],.iface 308 (.agg #[.pointer (some ⟨2,140,none⟩)])] W fun e w'=>∃ b:Bool,e=.returned (.bool b)∧R e w') :
  Calls Tryz.prog 62 #[.iface t0 x,.iface 143 (.pointer (some p))] w R:=by
 have h6:=@run_callFunc_extern Tryz.prog 138 _ (fun args=>ReflectliteValue.unpack (args.getD 0 (.tuple #[]))) Tryz.func138 (by kernel_rfl) (by kernel_rfl) (by kernel_rfl) (by kernel_rfl)
 have h7 := @run_callFunc_extern Tryz.prog 139 _ (ReflectliteValue.methodAny (ReflectliteValue.valueError "reflectlite.Value.Type" 0) (fun t _ _ _ => ReflectliteType.toType t)) Tryz.func139 (by kernel_rfl) (by kernel_rfl) (by kernel_rfl) (by kernel_rfl)
 have h8 := @run_callFunc_extern Tryz.prog 140 _ (ReflectliteValue.method (ReflectliteValue.valueError "reflectlite.Value.IsNil" 0) ReflectliteValue.isNil) Tryz.func140 (by kernel_rfl) (by kernel_rfl) (by kernel_rfl) (by kernel_rfl)
 have WR:=@run_callFunc_extern Tryz.prog 356 _ (ReflectliteType.abiMethod fun t=>do pure (.int .u8 (←Rtype.kind t))) Tryz.func356 (by kernel_rfl) (by kernel_rfl) (by kernel_rfl) (by kernel_rfl)
 have h37:=@run_callFunc_extern Tryz.prog 372 _ (ReflectliteType.method ReflectliteType.elem) Tryz.func372 (by kernel_rfl) (by kernel_rfl) (by kernel_rfl) (by kernel_rfl)
 have h38 := @run_callFunc_extern Tryz.prog 373 _ (ReflectliteType.relation "Implements" ReflectliteType.implements_) Tryz.func373 (by kernel_rfl) (by kernel_rfl) (by kernel_rfl) (by kernel_rfl)
 have f6:=MT
 have f7:=XZ
 have mK:=Hb
 have mE:=Hc
 have mI:=sF
 have kP:=VS
 have kT:=x7
 have eP:=z9
 have iP:=Va
 have n8:=VV ⟨w.heap.size,0,none⟩ p ((w.alloc (.cells #[.pointer (some p)] 143)).alloc (.cells #[.pointer (some ⟨2,143,none⟩),.pointer (some ⟨w.heap.size,0,none⟩),.int .u64 150] 226)) (by simp)
 have aY:0<w.heap.size:=qZ hg
 have PO:((w.alloc (.cells #[.pointer (some p)] 143)).alloc (.cells #[.pointer (some ⟨2,143,none⟩),.pointer (some ⟨w.heap.size,0,none⟩),.int .u64 150] 226)).cell? ⟨0,0,none⟩=some (.iface 308 (.agg #[.pointer (some ⟨2,41,none⟩)])):=by
  rw[World.cell?_alloc_lt _ _ ⟨0,0,none⟩ (by simp),World.cell?_alloc_lt _ _ ⟨0,0,none⟩ aY];exact hg
 go_enter Tryz.func62,Tryz.ntmps62
 go_wp2_with (go_at_call 141;refine(fG _ (by rfl)).mono ?_;rintro e w' ⟨bb,rfl,hr⟩)
 exact hr
theorem QR(v:Value)(r:Option Int)(n:Nat)(p:Addr)(old:Value)(w:World)(hg:w.cell? ⟨0,0,none⟩=some (.iface 308 (.agg #[.pointer (some ⟨2,41,none⟩)])))(LW:sS w v r n)(hp:w.cell? p=some old)(hf:w.frozen? p=false) :
  Calls Tryz.prog 62 #[v,.iface 137 (.pointer (some p))] w (LH w p r):=by
 obtain⟨t0,x,rfl⟩:=Eg LW
 have F8:=qZ hp
 refine asE t0 x p w hg fun W hW=>?_
 have LM:New w W:=by rw[hW];exact((New.refl _).alloc _ _).alloc _ _
 have hb:=LM.1
 have dX:W.heap.size=w.heap.size+2:=by rw[hW];simp
 refine(as2E _ r n p ⟨w.heap.size,0,none⟩ old W (L7 (fun b o h=>hb.cell (p:=⟨b,o,none⟩) h) LW) (by rw[hW];simp) ((hb.cell (p:=p) F8).trans hp) ((hb.frozen (p:=p) F8).trans hf) (by simp only[dX];omega) (by omega)).mono fun e w' As=>?_
 obtain⟨e1,w1,k1,k2⟩:=As
 exact⟨_,e1,e1,w1,LM.trans k1,k2⟩
theorem QQ(q p:Addr)(old:Value)(w:World)(hg:w.cell? ⟨0,0,none⟩=some (.iface 308 (.agg #[.pointer (some ⟨2,41,none⟩)])))(hp:w.cell? p=some old)(hf:w.frozen? p=false) :
  Calls Tryz.prog 62 #[.iface 140 (.pointer (some q)),.iface 143 (.pointer (some p))] w (Fk w p (some q)):=by
 have F8:=qZ hp
 refine asF 140 _ p w hg fun W hW=>?_
 have LM:New w W:=by rw[hW];exact((New.refl _).alloc _ _).alloc _ _
 have hb:=LM.1
 have dX:W.heap.size=w.heap.size+2:=by rw[hW];simp
 refine(KU q p ⟨w.heap.size,0,none⟩ old W (by rw[hW];simp) ((hb.cell (p:=p) F8).trans hp) ((hb.frozen (p:=p) F8).trans hf) (by simp only[dX];omega) (by omega)).mono fun e w' As=>?_
 obtain⟨e1,w1,k1,k2⟩:=As
 exact⟨_,e1,e1,w1,LM.trans k1,k2⟩
theorem KT(n:Int)(p:Addr)(w:World)(hg:w.cell? ⟨0,0,none⟩=some (.iface 308 (.agg #[.pointer (some ⟨2,41,none⟩)]))) :
  Calls Tryz.prog 62 #[.iface 57 (.int .i64 n),.iface 143 (.pointer (some p))] w (Fk w p none):=by
 refine asF 57 _ p w hg fun W hW=>?_
 have LM:New w W:=by rw[hW];exact((New.refl _).alloc _ _).alloc _ _
 have hb:=LM.1
 have dX:W.heap.size=w.heap.size+2:=by rw[hW];simp
 refine(DC n p ⟨w.heap.size,0,none⟩ W).mono fun e w' As=>?_
 obtain⟨e1,w1,k1,k2⟩:=As
 exact⟨_,e1,e1,w1,LM.trans k1,k2⟩
end Go.Proofs.YtfkbogedodngeaaGreatDoor.Err
