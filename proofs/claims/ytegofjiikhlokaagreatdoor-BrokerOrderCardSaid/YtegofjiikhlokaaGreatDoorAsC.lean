/-
errors.As at the two targets of this program.
-/
import Derived.Test.YtegofjiikhlokaaGreatDoorAsB
namespace Go.Proofs.YtegofjiikhlokaaGreatDoor.Err
open Go.RowKit Go.Extern.Stop Go.Stop Go.Extern
set_option maxHeartbeats 4000000 in
set_option maxRecDepth 100000 in
theorem asE{R:Ending→World→Prop}(t0:TypeId)(x:Value)(p:Addr)(w:World)(hg:w.cell? ⟨0,0,none⟩=some (.iface 229 (.agg #[.pointer (some ⟨2,59,none⟩)])))
  (nQ:∀W:World,W=((w.alloc (.cells #[.pointer (some p)] 122)).alloc (.cells #[.pointer (some ⟨2,122,none⟩),.pointer (some ⟨w.heap.size,0,none⟩),.int .u64 150] 181)) →
   Calls Tryz.prog 125 #[.iface t0 x,.iface 122 (.pointer (some p)),.agg #[.pointer (some ⟨2,122,none⟩),.pointer (some ⟨w.heap.size,0,none⟩),.int .u64 150],.iface 229 (.agg #[.pointer (some ⟨2,65,none⟩)])] W fun e w'=>∃ b:Bool,e=.returned (.bool b)∧R e w') :
  Calls Tryz.prog 57 #[.iface t0 x,.iface 122 (.pointer (some p))] w R:=by
 have h6:=@run_callFunc_extern Tryz.prog 122 _ (fun args=>ReflectliteValue.unpack (args.getD 0 (.tuple #[]))) Tryz.func122 (by kernel_rfl) (by kernel_rfl) (by kernel_rfl) (by kernel_rfl)
 have h7 := @run_callFunc_extern Tryz.prog 123 _ (ReflectliteValue.methodAny (ReflectliteValue.valueError "reflectlite.Value.Type" 0) (fun t _ _ _ => ReflectliteType.toType t)) Tryz.func123 (by kernel_rfl) (by kernel_rfl) (by kernel_rfl) (by kernel_rfl)
 have h8 := @run_callFunc_extern Tryz.prog 124 _ (ReflectliteValue.method (ReflectliteValue.valueError "reflectlite.Value.IsNil" 0) ReflectliteValue.isNil) Tryz.func124 (by kernel_rfl) (by kernel_rfl) (by kernel_rfl) (by kernel_rfl)
 have UJ:=@run_callFunc_extern Tryz.prog 255 _ (ReflectliteType.abiMethod fun t=>do pure (.int .u8 (←Rtype.kind t))) Tryz.func255 (by kernel_rfl) (by kernel_rfl) (by kernel_rfl) (by kernel_rfl)
 have E4:=@run_callFunc_extern Tryz.prog 267 _ (ReflectliteType.method ReflectliteType.elem) Tryz.func267 (by kernel_rfl) (by kernel_rfl) (by kernel_rfl) (by kernel_rfl)
 have OJ := @run_callFunc_extern Tryz.prog 268 _ (ReflectliteType.relation "Implements" ReflectliteType.implements_) Tryz.func268 (by kernel_rfl) (by kernel_rfl) (by kernel_rfl) (by kernel_rfl)
 have f6:=RL
 have f7:=AaH
 have mK:=Ki
 have mE:=Kj
 have mI:=uH
 have kP:=d7
 have kT:=AfG
 have eP:=AgC
 have iP:=Yz
 have n8:=i7 ⟨w.heap.size,0,none⟩ p ((w.alloc (.cells #[.pointer (some p)] 122)).alloc (.cells #[.pointer (some ⟨2,122,none⟩),.pointer (some ⟨w.heap.size,0,none⟩),.int .u64 150] 181)) (by simp)
 have bD:0<w.heap.size:=tI hg
 have IT:((w.alloc (.cells #[.pointer (some p)] 122)).alloc (.cells #[.pointer (some ⟨2,122,none⟩),.pointer (some ⟨w.heap.size,0,none⟩),.int .u64 150] 181)).cell? ⟨0,0,none⟩=some (.iface 229 (.agg #[.pointer (some ⟨2,59,none⟩)])):=by
  rw[World.cell?_alloc_lt _ _ ⟨0,0,none⟩ (by simp),World.cell?_alloc_lt _ _ ⟨0,0,none⟩ bD];exact hg
 go_enter Tryz.func57,Tryz.ntmps57
 go_wp2_with (go_at_call 125;refine(nQ _ (by rfl)).mono ?_;rintro e w' ⟨bb,rfl,hr⟩)
 exact hr
set_option maxHeartbeats 4000000 in
set_option maxRecDepth 100000 in
theorem asF{R:Ending→World→Prop}(t0:TypeId)(x:Value)(p:Addr)(w:World)(hg:w.cell? ⟨0,0,none⟩=some (.iface 229 (.agg #[.pointer (some ⟨2,59,none⟩)])))
  (nQ:∀W:World,W=((w.alloc (.cells #[.pointer (some p)] 128)).alloc (.cells #[.pointer (some ⟨2,128,none⟩),.pointer (some ⟨w.heap.size,0,none⟩),.int .u64 150] 181)) →
   Calls Tryz.prog 125 #[.iface t0 x,.iface 128 (.pointer (some p)),.agg #[.pointer (some ⟨2,128,none⟩),.pointer (some ⟨w.heap.size,0,none⟩),.int .u64 150],.iface 229 (.agg #[.pointer (some ⟨2,125,none⟩)])] W fun e w'=>∃ b:Bool,e=.returned (.bool b)∧R e w') :
  Calls Tryz.prog 57 #[.iface t0 x,.iface 128 (.pointer (some p))] w R:=by
 have h6:=@run_callFunc_extern Tryz.prog 122 _ (fun args=>ReflectliteValue.unpack (args.getD 0 (.tuple #[]))) Tryz.func122 (by kernel_rfl) (by kernel_rfl) (by kernel_rfl) (by kernel_rfl)
 have h7 := @run_callFunc_extern Tryz.prog 123 _ (ReflectliteValue.methodAny (ReflectliteValue.valueError "reflectlite.Value.Type" 0) (fun t _ _ _ => ReflectliteType.toType t)) Tryz.func123 (by kernel_rfl) (by kernel_rfl) (by kernel_rfl) (by kernel_rfl)
 have h8 := @run_callFunc_extern Tryz.prog 124 _ (ReflectliteValue.method (ReflectliteValue.valueError "reflectlite.Value.IsNil" 0) ReflectliteValue.isNil) Tryz.func124 (by kernel_rfl) (by kernel_rfl) (by kernel_rfl) (by kernel_rfl)
 have UJ:=@run_callFunc_extern Tryz.prog 255 _ (ReflectliteType.abiMethod fun t=>do pure (.int .u8 (←Rtype.kind t))) Tryz.func255 (by kernel_rfl) (by kernel_rfl) (by kernel_rfl) (by kernel_rfl)
 have E4:=@run_callFunc_extern Tryz.prog 267 _ (ReflectliteType.method ReflectliteType.elem) Tryz.func267 (by kernel_rfl) (by kernel_rfl) (by kernel_rfl) (by kernel_rfl)
 have OJ := @run_callFunc_extern Tryz.prog 268 _ (ReflectliteType.relation "Implements" ReflectliteType.implements_) Tryz.func268 (by kernel_rfl) (by kernel_rfl) (by kernel_rfl) (by kernel_rfl)
 have f6:=RK
 have f7:=AaG
 have mK:=Ki
 have mE:=Kj
 have mI:=uH
 have kP:=d6
 have kT:=AfF
 have eP:=AgB
 have iP:=Yy
 have n8:=i6 ⟨w.heap.size,0,none⟩ p ((w.alloc (.cells #[.pointer (some p)] 128)).alloc (.cells #[.pointer (some ⟨2,128,none⟩),.pointer (some ⟨w.heap.size,0,none⟩),.int .u64 150] 181)) (by simp)
 have bD:0<w.heap.size:=tI hg
 have IT:((w.alloc (.cells #[.pointer (some p)] 128)).alloc (.cells #[.pointer (some ⟨2,128,none⟩),.pointer (some ⟨w.heap.size,0,none⟩),.int .u64 150] 181)).cell? ⟨0,0,none⟩=some (.iface 229 (.agg #[.pointer (some ⟨2,59,none⟩)])):=by
  rw[World.cell?_alloc_lt _ _ ⟨0,0,none⟩ (by simp),World.cell?_alloc_lt _ _ ⟨0,0,none⟩ bD];exact hg
 go_enter Tryz.func57,Tryz.ntmps57
 go_wp2_with (go_at_call 125;refine(nQ _ (by rfl)).mono ?_;rintro e w' ⟨bb,rfl,hr⟩)
 exact hr
theorem VJ(v:Value)(r:Option Int)(n:Nat)(p:Addr)(old:Value)(w:World)(hg:w.cell? ⟨0,0,none⟩=some (.iface 229 (.agg #[.pointer (some ⟨2,59,none⟩)])))(QK:vA w v r n)(hp:w.cell? p=some old)(hf:w.frozen? p=false) :
  Calls Tryz.prog 57 #[v,.iface 122 (.pointer (some p))] w (QF w p r):=by
 obtain⟨t0,x,rfl⟩:=Gu QK
 have S2:=tI hp
 refine asE t0 x p w hg fun W hW=>?_
 have WB:New w W:=by rw[hW];exact((New.refl _).alloc _ _).alloc _ _
 have hb:=WB.1
 have fX:W.heap.size=w.heap.size+2:=by rw[hW];simp
 refine(as2E _ r n p ⟨w.heap.size,0,none⟩ old W (V7 (fun b o h=>hb.cell (p:=⟨b,o,none⟩) h) QK) (by rw[hW];simp) ((hb.cell (p:=p) S2).trans hp) ((hb.frozen (p:=p) S2).trans hf) (by simp only[fX];omega) (by omega)).mono fun e w' Cx=>?_
 obtain⟨e1,w1,k1,k2⟩:=Cx
 exact⟨_,e1,e1,w1,WB.trans k1,k2⟩
theorem VI(q p:Addr)(old:Value)(w:World)(hg:w.cell? ⟨0,0,none⟩=some (.iface 229 (.agg #[.pointer (some ⟨2,59,none⟩)])))(hp:w.cell? p=some old)(hf:w.frozen? p=false) :
  Calls Tryz.prog 57 #[.iface 125 (.pointer (some q)),.iface 128 (.pointer (some p))] w (Ie w p (some q)):=by
 have S2:=tI hp
 refine asF 125 _ p w hg fun W hW=>?_
 have WB:New w W:=by rw[hW];exact((New.refl _).alloc _ _).alloc _ _
 have hb:=WB.1
 have fX:W.heap.size=w.heap.size+2:=by rw[hW];simp
 refine(PV q p ⟨w.heap.size,0,none⟩ old W (by rw[hW];simp) ((hb.cell (p:=p) S2).trans hp) ((hb.frozen (p:=p) S2).trans hf) (by simp only[fX];omega) (by omega)).mono fun e w' Cx=>?_
 obtain⟨e1,w1,k1,k2⟩:=Cx
 exact⟨_,e1,e1,w1,WB.trans k1,k2⟩
theorem PU(n:Int)(p:Addr)(w:World)(hg:w.cell? ⟨0,0,none⟩=some (.iface 229 (.agg #[.pointer (some ⟨2,59,none⟩)]))) :
  Calls Tryz.prog 57 #[.iface 65 (.int .i64 n),.iface 128 (.pointer (some p))] w (Ie w p none):=by
 refine asF 65 _ p w hg fun W hW=>?_
 have WB:New w W:=by rw[hW];exact((New.refl _).alloc _ _).alloc _ _
 have hb:=WB.1
 have fX:W.heap.size=w.heap.size+2:=by rw[hW];simp
 refine(HO n p ⟨w.heap.size,0,none⟩ W).mono fun e w' Cx=>?_
 obtain⟨e1,w1,k1,k2⟩:=Cx
 exact⟨_,e1,e1,w1,WB.trans k1,k2⟩
end Go.Proofs.YtegofjiikhlokaaGreatDoor.Err
