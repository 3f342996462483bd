/-
errors.As at the two targets of this program.
-/
import Derived.Test.YtloabemenciijaaGreatDoorAsB
namespace Go.Proofs.YtloabemenciijaaGreatDoor.Err
open Go.RowKit Go.Extern.Stop Go.Stop Go.Extern
set_option maxHeartbeats 4000000 in
set_option maxRecDepth 100000 in
theorem asE{R:Ending→World→Prop}(t0:TypeId)(x:Value)(p:Addr)(w:World)(hg:w.cell? ⟨0,0,none⟩=some (.iface 333 (.agg #[.pointer (some ⟨2,41,none⟩)])))
  (eG:∀W:World,W=((w.alloc (.cells #[.pointer (some p)] 154)).alloc (.cells #[.pointer (some ⟨2,154,none⟩),.pointer (some ⟨w.heap.size,0,none⟩),.int .u64 150] 267)) →
   Calls Tryz.prog 177 #[.iface t0 x,.iface 154 (.pointer (some p)),.agg #[.pointer (some ⟨2,154,none⟩),.pointer (some ⟨w.heap.size,0,none⟩),.int .u64 150],.iface 333 (.agg #[.pointer (some ⟨2,57,none⟩)])] W fun e w'=>∃ b:Bool,e=.returned (.bool b)∧R e w') :
  Calls Tryz.prog 75 #[.iface t0 x,.iface 154 (.pointer (some p))] w R:=by
 have h6:=@run_callFunc_extern Tryz.prog 174 _ (fun args=>ReflectliteValue.unpack (args.getD 0 (.tuple #[]))) Tryz.func174 (by kernel_rfl) (by kernel_rfl) (by kernel_rfl) (by kernel_rfl)
 have h7 := @run_callFunc_extern Tryz.prog 175 _ (ReflectliteValue.methodAny (ReflectliteValue.valueError "reflectlite.Value.Type" 0) (fun t _ _ _ => ReflectliteType.toType t)) Tryz.func175 (by kernel_rfl) (by kernel_rfl) (by kernel_rfl) (by kernel_rfl)
 have h8 := @run_callFunc_extern Tryz.prog 176 _ (ReflectliteValue.method (ReflectliteValue.valueError "reflectlite.Value.IsNil" 0) ReflectliteValue.isNil) Tryz.func176 (by kernel_rfl) (by kernel_rfl) (by kernel_rfl) (by kernel_rfl)
 have h27:=@run_callFunc_extern Tryz.prog 391 _ (ReflectliteType.abiMethod fun t=>do pure (.int .u8 (←Rtype.kind t))) Tryz.func391 (by kernel_rfl) (by kernel_rfl) (by kernel_rfl) (by kernel_rfl)
 have h37:=@run_callFunc_extern Tryz.prog 407 _ (ReflectliteType.method ReflectliteType.elem) Tryz.func407 (by kernel_rfl) (by kernel_rfl) (by kernel_rfl) (by kernel_rfl)
 have h38 := @run_callFunc_extern Tryz.prog 408 _ (ReflectliteType.relation "Implements" ReflectliteType.implements_) Tryz.func408 (by kernel_rfl) (by kernel_rfl) (by kernel_rfl) (by kernel_rfl)
 have f6:=W9
 have f7:=KZ
 have mK:=zY
 have mE:=zZ
 have mI:=mV
 have kP:=JF
 have kT:=SE
 have eP:=SL
 have iP:=Lx
 have n8:=JI ⟨w.heap.size,0,none⟩ p ((w.alloc (.cells #[.pointer (some p)] 154)).alloc (.cells #[.pointer (some ⟨2,154,none⟩),.pointer (some ⟨w.heap.size,0,none⟩),.int .u64 150] 267)) (by simp)
 have bB:0<w.heap.size:=mC hg
 have hg2:((w.alloc (.cells #[.pointer (some p)] 154)).alloc (.cells #[.pointer (some ⟨2,154,none⟩),.pointer (some ⟨w.heap.size,0,none⟩),.int .u64 150] 267)).cell? ⟨0,0,none⟩=some (.iface 333 (.agg #[.pointer (some ⟨2,41,none⟩)])):=by
  rw[World.cell?_alloc_lt _ _ ⟨0,0,none⟩ (by simp),World.cell?_alloc_lt _ _ ⟨0,0,none⟩ bB];exact hg
 go_enter Tryz.func75,Tryz.ntmps75
 go_wp2_with (go_at_call 177;refine(eG _ (by rfl)).mono ?_;rintro e w' ⟨bb,rfl,hr⟩)
 exact hr
set_option maxHeartbeats 4000000 in
set_option maxRecDepth 100000 in
theorem asF{R:Ending→World→Prop}(t0:TypeId)(x:Value)(p:Addr)(w:World)(hg:w.cell? ⟨0,0,none⟩=some (.iface 333 (.agg #[.pointer (some ⟨2,41,none⟩)])))
  (eG:∀W:World,W=((w.alloc (.cells #[.pointer (some p)] 160)).alloc (.cells #[.pointer (some ⟨2,160,none⟩),.pointer (some ⟨w.heap.size,0,none⟩),.int .u64 150] 267)) →
   Calls Tryz.prog 177 #[.iface t0 x,.iface 160 (.pointer (some p)),.agg #[.pointer (some ⟨2,160,none⟩),.pointer (some ⟨w.heap.size,0,none⟩),.int .u64 150],.iface 333 (.agg #[.pointer (some ⟨2,157,none⟩)])] W fun e w'=>∃ b:Bool,e=.returned (.bool b)∧R e w') :
  Calls Tryz.prog 75 #[.iface t0 x,.iface 160 (.pointer (some p))] w R:=by
 have h6:=@run_callFunc_extern Tryz.prog 174 _ (fun args=>ReflectliteValue.unpack (args.getD 0 (.tuple #[]))) Tryz.func174 (by kernel_rfl) (by kernel_rfl) (by kernel_rfl) (by kernel_rfl)
 have h7 := @run_callFunc_extern Tryz.prog 175 _ (ReflectliteValue.methodAny (ReflectliteValue.valueError "reflectlite.Value.Type" 0) (fun t _ _ _ => ReflectliteType.toType t)) Tryz.func175 (by kernel_rfl) (by kernel_rfl) (by kernel_rfl) (by kernel_rfl)
 have h8 := @run_callFunc_extern Tryz.prog 176 _ (ReflectliteValue.method (ReflectliteValue.valueError "reflectlite.Value.IsNil" 0) ReflectliteValue.isNil) Tryz.func176 (by kernel_rfl) (by kernel_rfl) (by kernel_rfl) (by kernel_rfl)
 have h27:=@run_callFunc_extern Tryz.prog 391 _ (ReflectliteType.abiMethod fun t=>do pure (.int .u8 (←Rtype.kind t))) Tryz.func391 (by kernel_rfl) (by kernel_rfl) (by kernel_rfl) (by kernel_rfl)
 have h37:=@run_callFunc_extern Tryz.prog 407 _ (ReflectliteType.method ReflectliteType.elem) Tryz.func407 (by kernel_rfl) (by kernel_rfl) (by kernel_rfl) (by kernel_rfl)
 have h38 := @run_callFunc_extern Tryz.prog 408 _ (ReflectliteType.relation "Implements" ReflectliteType.implements_) Tryz.func408 (by kernel_rfl) (by kernel_rfl) (by kernel_rfl) (by kernel_rfl)
 have f6:=W8
 have f7:=KY
 have mK:=zY
 have mE:=zZ
 have mI:=mV
 have kP:=JE
 have kT:=SD
 have eP:=SK
 have iP:=Lw
 have n8:=JH ⟨w.heap.size,0,none⟩ p ((w.alloc (.cells #[.pointer (some p)] 160)).alloc (.cells #[.pointer (some ⟨2,160,none⟩),.pointer (some ⟨w.heap.size,0,none⟩),.int .u64 150] 267)) (by simp)
 have bB:0<w.heap.size:=mC hg
 have hg2:((w.alloc (.cells #[.pointer (some p)] 160)).alloc (.cells #[.pointer (some ⟨2,160,none⟩),.pointer (some ⟨w.heap.size,0,none⟩),.int .u64 150] 267)).cell? ⟨0,0,none⟩=some (.iface 333 (.agg #[.pointer (some ⟨2,41,none⟩)])):=by
  rw[World.cell?_alloc_lt _ _ ⟨0,0,none⟩ (by simp),World.cell?_alloc_lt _ _ ⟨0,0,none⟩ bB];exact hg
 go_enter Tryz.func75,Tryz.ntmps75
 go_wp2_with (go_at_call 177;refine(eG _ (by rfl)).mono ?_;rintro e w' ⟨bb,rfl,hr⟩)
 exact hr
theorem CL(v:Value)(r:Option Int)(n:Nat)(p:Addr)(old:Value)(w:World)(hg:w.cell? ⟨0,0,none⟩=some (.iface 333 (.agg #[.pointer (some ⟨2,41,none⟩)])))(U3:nG w v r n)(hp:w.cell? p=some old)(hf:w.frozen? p=false) :
  Calls Tryz.prog 75 #[v,.iface 154 (.pointer (some p))] w (T6 w p r):=by
 obtain⟨t0,x,rfl⟩:=xL U3
 have Rn:=mC hp
 refine asE t0 x p w hg fun W hW=>?_
 have U0:New w W:=by rw[hW];exact((New.refl _).alloc _ _).alloc _ _
 have hb:=U0.1
 have cQ:W.heap.size=w.heap.size+2:=by rw[hW];simp
 refine(k7 _ r n p ⟨w.heap.size,0,none⟩ old W (Sv (fun b o h=>hb.cell (p:=⟨b,o,none⟩) h) U3) (by rw[hW];simp) ((hb.cell (p:=p) Rn).trans hp) ((hb.frozen (p:=p) Rn).trans hf) (by simp only[cQ];omega) (by omega)).mono fun e w' uO=>?_
 obtain⟨e1,w1,k1,k2⟩:=uO
 exact⟨_,e1,e1,w1,U0.trans k1,k2⟩
theorem CK(q p:Addr)(old:Value)(w:World)(hg:w.cell? ⟨0,0,none⟩=some (.iface 333 (.agg #[.pointer (some ⟨2,41,none⟩)])))(hp:w.cell? p=some old)(hf:w.frozen? p=false) :
  Calls Tryz.prog 75 #[.iface 157 (.pointer (some q)),.iface 160 (.pointer (some p))] w (yN w p (some q)):=by
 have Rn:=mC hp
 refine asF 157 _ p w hg fun W hW=>?_
 have U0:New w W:=by rw[hW];exact((New.refl _).alloc _ _).alloc _ _
 have hb:=U0.1
 have cQ:W.heap.size=w.heap.size+2:=by rw[hW];simp
 refine(S6 q p ⟨w.heap.size,0,none⟩ old W (by rw[hW];simp) ((hb.cell (p:=p) Rn).trans hp) ((hb.frozen (p:=p) Rn).trans hf) (by simp only[cQ];omega) (by omega)).mono fun e w' uO=>?_
 obtain⟨e1,w1,k1,k2⟩:=uO
 exact⟨_,e1,e1,w1,U0.trans k1,k2⟩
theorem S5(n:Int)(p:Addr)(w:World)(hg:w.cell? ⟨0,0,none⟩=some (.iface 333 (.agg #[.pointer (some ⟨2,41,none⟩)]))) :
  Calls Tryz.prog 75 #[.iface 57 (.int .i64 n),.iface 160 (.pointer (some p))] w (yN w p none):=by
 refine asF 57 _ p w hg fun W hW=>?_
 have U0:New w W:=by rw[hW];exact((New.refl _).alloc _ _).alloc _ _
 have hb:=U0.1
 have cQ:W.heap.size=w.heap.size+2:=by rw[hW];simp
 refine(Zj n p ⟨w.heap.size,0,none⟩ W).mono fun e w' uO=>?_
 obtain⟨e1,w1,k1,k2⟩:=uO
 exact⟨_,e1,e1,w1,U0.trans k1,k2⟩
end Go.Proofs.YtloabemenciijaaGreatDoor.Err
