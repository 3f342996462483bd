/-
errors.As at the two targets of this program (an error number, a fault), by its own text: what it answers along a chain of faults. After the guide's worked example Toyas; the closed facts on the model's entries for internal/reflectlite at this dump's numbers.
-/
import Derived.Test.YtloabemenciijaaGreatDoorRows
import Derived.WalkKit
import Derived.LaidEql
import Derived.Stop.Asserts
import Derived.RowKitTokens
import Derived.RowKit3
namespace Go.Proofs.YtloabemenciijaaGreatDoor.Err
open Go.RowKit Go.Extern.Stop Go.Stop Go.Extern
def New(w w1:World):Prop:=Below w.heap.size w w1∧(∀a,w1.frozen? a=w.frozen? a)∧w.drawn≤w1.drawn
theorem New.refl(w:World):New w w:=⟨Below.refl _ _,fun _=>rfl,Nat.le_refl _⟩
theorem New.alloc{w w1:World}(h:New w w1)(c:Array Value)(t:TypeId):New w (w1.alloc (.cells c t)) :=
 ⟨h.1.alloc h.1.size _,fun a=>(frozen?_alloc_cells _ _ _ a).trans (h.2.1 a),h.2.2⟩
theorem New.trans{a b c:World}(h:New a b)(g:New b c):New a c:=⟨h.1.trans (g.1.mono h.1.size),fun x=>(g.2.1 x).trans (h.2.1 x),Nat.le_trans h.2.2 g.2.2⟩
theorem rlm(z:Sem Value)(f:TypeId→Addr→Nat→Nat→Sem Value)(v:Value) :
  ReflectliteValue.method z f #[v]=(do match ←ReflectliteValue.parts v with|none=>z|some (t,a,fl)=>f t a fl (fl % 32)):=rfl
theorem rls(v x:Value):ReflectliteValue.set #[v,x]=(do
  let (some (dst,a,fl),some (src,b,_)):=(←ReflectliteValue.parts v,←ReflectliteValue.parts x)
   | unsupported (.noEntry "extern/(internal/reflectlite.Value).Set.zeroValue")
  if fl / ReflectliteValue.flagAddr % 2 == 0 then unsupported (.noEntry "extern/(internal/reflectlite.Value).Set.unaddressable")
  let val ←loadVar src b
  if ←Rtype.directlyAssignable dst src then storeVar dst a val
  else if ←Rtype.implements dst src then
   if(←Rtype.kind src) == 20 then
    match val with
    | .nilIface => unsupported (.noEntry "extern/reflectlite: a nil value of one interface type handed on as a value of another")
    | _=>storeVar dst a val
   else storeVar dst a (.iface src val)
  else panicString ("reflectlite.Set: value of type " ++ (← Rtype.spelt src) ++ " is not assignable to type " ++ (← Rtype.spelt dst))
  pure (.tuple #[])):=rfl
theorem zY (h : Value) (w : World) : (Go.method 583 333 (.agg #[h]) "Kind").run Tryz.prog w = .ok (391, h) w := by kernel_rfl
theorem zZ (h : Value) (w : World) : (Go.method 583 333 (.agg #[h]) "Elem").run Tryz.prog w = .ok (407, .agg #[h]) w := by kernel_rfl
theorem mV (h : Value) (w : World) : (Go.method 583 333 (.agg #[h]) "Implements").run Tryz.prog w = .ok (408, .agg #[h]) w := by kernel_rfl
theorem hU (h : Value) (w : World) : (Go.method 583 333 (.agg #[h]) "AssignableTo").run Tryz.prog w = .ok (405, .agg #[h]) w := by kernel_rfl
theorem Gq (p : Addr) (w : World) : (Go.method 583 157 (.pointer (some p)) "Unwrap").run Tryz.prog w = .ok (398, .pointer (some p)) w := by kernel_rfl
theorem RZ(v:Value)(xT:TypeId)(w:World):(Instr.typeAssert (.iface 57 v) xT 338 true).run Tryz.prog w=.ok (.tuple #[.nilIface,.bool false]) w:=run_typeAssert_lacksB Tryz.underlying338 (by kernel_rfl) (by kernel_rfl) v xT w
theorem RY(v:Value)(xT:TypeId)(w:World):(Instr.typeAssert (.iface 157 v) xT 338 true).run Tryz.prog w=.ok (.tuple #[.nilIface,.bool false]) w:=run_typeAssert_lacksB Tryz.underlying338 (by kernel_rfl) (by kernel_rfl) v xT w
theorem RX(v:Value)(xT:TypeId)(w:World):(Instr.typeAssert (.iface 57 v) xT 341 true).run Tryz.prog w=.ok (.tuple #[.nilIface,.bool false]) w:=run_typeAssert_lacksB Tryz.underlying341 (by kernel_rfl) (by kernel_rfl) v xT w
theorem SF(v:Value)(xT:TypeId)(w:World):(Instr.typeAssert (.iface 157 v) xT 341 true).run Tryz.prog w=.ok (.tuple #[.iface 157 v,.bool true]) w:=run_typeAssert_hasB Tryz.underlying341 (by kernel_rfl) v xT w
theorem IT(v:Value)(xT:TypeId)(w:World):(Instr.typeAssert (.iface 57 v) xT 343 true).run Tryz.prog w=.ok (.tuple #[.nilIface,.bool false]) w:=run_typeAssert_lacksB Tryz.underlying343 (by kernel_rfl) (by kernel_rfl) v xT w
theorem Tm(v:Value)(w:World):(ReflectliteType.typeOf #[.iface 57 v]).run Tryz.prog w=.ok (.iface 333 (.agg #[.pointer (some ⟨2,57,none⟩)])) w:=by kernel_rfl
theorem Tl(v:Value)(w:World):(ReflectliteType.typeOf #[.iface 157 v]).run Tryz.prog w=.ok (.iface 333 (.agg #[.pointer (some ⟨2,157,none⟩)])) w:=by kernel_rfl
theorem S4 (w : World) : (ReflectliteType.relation "AssignableTo" ReflectliteType.assignableTo #[.agg #[.pointer (some ⟨2, 57, none⟩)], .iface 333 (.agg #[.pointer (some ⟨2, 57, none⟩)])]).run Tryz.prog w = .ok (.bool true) w := by kernel_rfl
theorem S1 (w : World) : (ReflectliteType.relation "AssignableTo" ReflectliteType.assignableTo #[.agg #[.pointer (some ⟨2, 157, none⟩)], .iface 333 (.agg #[.pointer (some ⟨2, 157, none⟩)])]).run Tryz.prog w = .ok (.bool true) w := by kernel_rfl
theorem S3 (w : World) : (ReflectliteType.relation "AssignableTo" ReflectliteType.assignableTo #[.agg #[.pointer (some ⟨2, 57, none⟩)], .iface 333 (.agg #[.pointer (some ⟨2, 157, none⟩)])]).run Tryz.prog w = .ok (.bool false) w := by kernel_rfl
theorem S2 (w : World) : (ReflectliteType.relation "AssignableTo" ReflectliteType.assignableTo #[.agg #[.pointer (some ⟨2, 157, none⟩)], .iface 333 (.agg #[.pointer (some ⟨2, 57, none⟩)])]).run Tryz.prog w = .ok (.bool false) w := by kernel_rfl
theorem W9(t:Addr)(w:World):(ReflectliteValue.unpack (.iface 154 (.pointer (some t)))).run Tryz.prog w
  = .ok (.agg #[.pointer (some ⟨2,154,none⟩),.pointer (some ⟨w.heap.size,0,none⟩),.int .u64 150]) (w.alloc (.cells #[.pointer (some t)] 154)):=by kernel_rfl
theorem KZ (a : Addr) (w : World) : (ReflectliteValue.methodAny (ReflectliteValue.valueError "reflectlite.Value.Type" 0) (fun t _ _ _ => ReflectliteType.toType t) #[.agg #[.pointer (some ⟨2, 154, none⟩), .pointer (some a), .int .u64 150]]).run Tryz.prog w
  = .ok (.iface 333 (.agg #[.pointer (some ⟨2,154,none⟩)])) w:=by kernel_rfl
theorem JF(w:World):((ReflectliteType.abiMethod fun t=>(fun a:Nat=>Value.int IntKind.u8 (a:Int)) <$> Rtype.kind t) #[.pointer (some ⟨2,154,none⟩)]).run Tryz.prog w=.ok (.int .u8 22) w:=by kernel_rfl
theorem SE(w:World):((ReflectliteType.abiMethod fun t=>(fun a:Nat=>Value.int IntKind.u8 (a:Int)) <$> Rtype.kind t) #[.pointer (some ⟨2,57,none⟩)]).run Tryz.prog w=.ok (.int .u8 2) w:=by kernel_rfl
theorem Uh(a:Addr)(w:World):(ReflectliteValue.parts (.agg #[.pointer (some ⟨2,154,none⟩),.pointer (some a),.int .u64 150])).run Tryz.prog w=.ok (some (154,a,150)) w:=by kernel_rfl
theorem JI(a p:Addr)(W:World)(ha:W.cell? a=some (.pointer (some p))) :
  (ReflectliteValue.method (ReflectliteValue.valueError "reflectlite.Value.IsNil" 0) ReflectliteValue.isNil #[.agg #[.pointer (some ⟨2, 154, none⟩), .pointer (some a), .int .u64 150]]).run Tryz.prog W = .ok (.bool false) W := by
 rw[rlm]
 simp only[Sem.run_bind,Uh,Result.andThen]
 simp[ReflectliteValue.isNil,loadVar,isAgg,underlying,Tryz.underlying154,ha,Result.andThen]
theorem SL(w:World):(ReflectliteType.method ReflectliteType.elem #[.agg #[.pointer (some ⟨2,154,none⟩)]]).run Tryz.prog w=.ok (.iface 333 (.agg #[.pointer (some ⟨2,57,none⟩)])) w:=by kernel_rfl
theorem Lx (w : World) : (ReflectliteType.relation "Implements" ReflectliteType.implements_ #[.agg #[.pointer (some ⟨2, 57, none⟩)], .iface 333 (.agg #[.pointer (some ⟨2, 41, none⟩)])]).run Tryz.prog w = .ok (.bool true) w := by kernel_rfl
theorem CA(w:World):(Rtype.elem? 154).run Tryz.prog w=.ok (some 57) w:=by kernel_rfl
theorem mkE(p:Addr)(w:World):(ReflectliteValue.mk 57 p ReflectliteValue.flagAddr).run Tryz.prog w=.ok (.agg #[.pointer (some ⟨2,57,none⟩),.pointer (some p),.int .u64 386]) w:=by kernel_rfl
theorem KE(a p:Addr)(W:World)(ha:W.cell? a=some (.pointer (some p))) :
  (ReflectliteValue.method (ReflectliteValue.valueError "reflectlite.Value.Elem" 0) ReflectliteValue.elem #[.agg #[.pointer (some ⟨2, 154, none⟩), .pointer (some a), .int .u64 150]]).run Tryz.prog W
   = .ok (.agg #[.pointer (some ⟨2,57,none⟩),.pointer (some p),.int .u64 386]) W:=by
 rw[rlm]
 simp only[Sem.run_bind,Uh,Result.andThen]
 simp[ReflectliteValue.elem,loadVar,isAgg,underlying,Tryz.underlying154,ha,Result.andThen,CA,mkE]
theorem AB(a:Addr)(w:World):(ReflectliteValue.parts (.agg #[.pointer (some ⟨2,57,none⟩),.pointer (some a),.int .u64 386])).run Tryz.prog w=.ok (some (57,a,386)) w:=by kernel_rfl
theorem IL(a:Addr)(w:World):(ReflectliteValue.parts (.agg #[.pointer (some ⟨2,57,none⟩),.pointer (some a),.int .u64 130])).run Tryz.prog w=.ok (some (57,a,130)) w:=by kernel_rfl
theorem CE(w:World):(Rtype.directlyAssignable 57 57).run Tryz.prog w=.ok true w:=by kernel_rfl
theorem W8(t:Addr)(w:World):(ReflectliteValue.unpack (.iface 160 (.pointer (some t)))).run Tryz.prog w
  = .ok (.agg #[.pointer (some ⟨2,160,none⟩),.pointer (some ⟨w.heap.size,0,none⟩),.int .u64 150]) (w.alloc (.cells #[.pointer (some t)] 160)):=by kernel_rfl
theorem KY (a : Addr) (w : World) : (ReflectliteValue.methodAny (ReflectliteValue.valueError "reflectlite.Value.Type" 0) (fun t _ _ _ => ReflectliteType.toType t) #[.agg #[.pointer (some ⟨2, 160, none⟩), .pointer (some a), .int .u64 150]]).run Tryz.prog w
  = .ok (.iface 333 (.agg #[.pointer (some ⟨2,160,none⟩)])) w:=by kernel_rfl
theorem JE(w:World):((ReflectliteType.abiMethod fun t=>(fun a:Nat=>Value.int IntKind.u8 (a:Int)) <$> Rtype.kind t) #[.pointer (some ⟨2,160,none⟩)]).run Tryz.prog w=.ok (.int .u8 22) w:=by kernel_rfl
theorem SD(w:World):((ReflectliteType.abiMethod fun t=>(fun a:Nat=>Value.int IntKind.u8 (a:Int)) <$> Rtype.kind t) #[.pointer (some ⟨2,157,none⟩)]).run Tryz.prog w=.ok (.int .u8 22) w:=by kernel_rfl
theorem Ug(a:Addr)(w:World):(ReflectliteValue.parts (.agg #[.pointer (some ⟨2,160,none⟩),.pointer (some a),.int .u64 150])).run Tryz.prog w=.ok (some (160,a,150)) w:=by kernel_rfl
theorem JH(a p:Addr)(W:World)(ha:W.cell? a=some (.pointer (some p))) :
  (ReflectliteValue.method (ReflectliteValue.valueError "reflectlite.Value.IsNil" 0) ReflectliteValue.isNil #[.agg #[.pointer (some ⟨2, 160, none⟩), .pointer (some a), .int .u64 150]]).run Tryz.prog W = .ok (.bool false) W := by
 rw[rlm]
 simp only[Sem.run_bind,Ug,Result.andThen]
 simp[ReflectliteValue.isNil,loadVar,isAgg,underlying,Tryz.underlying160,ha,Result.andThen]
theorem SK(w:World):(ReflectliteType.method ReflectliteType.elem #[.agg #[.pointer (some ⟨2,160,none⟩)]]).run Tryz.prog w=.ok (.iface 333 (.agg #[.pointer (some ⟨2,157,none⟩)])) w:=by kernel_rfl
theorem Lw (w : World) : (ReflectliteType.relation "Implements" ReflectliteType.implements_ #[.agg #[.pointer (some ⟨2, 157, none⟩)], .iface 333 (.agg #[.pointer (some ⟨2, 41, none⟩)])]).run Tryz.prog w = .ok (.bool true) w := by kernel_rfl
theorem BZ(w:World):(Rtype.elem? 160).run Tryz.prog w=.ok (some 157) w:=by kernel_rfl
theorem mkF(p:Addr)(w:World):(ReflectliteValue.mk 157 p ReflectliteValue.flagAddr).run Tryz.prog w=.ok (.agg #[.pointer (some ⟨2,157,none⟩),.pointer (some p),.int .u64 406]) w:=by kernel_rfl
theorem KD(a p:Addr)(W:World)(ha:W.cell? a=some (.pointer (some p))) :
  (ReflectliteValue.method (ReflectliteValue.valueError "reflectlite.Value.Elem" 0) ReflectliteValue.elem #[.agg #[.pointer (some ⟨2, 160, none⟩), .pointer (some a), .int .u64 150]]).run Tryz.prog W
   = .ok (.agg #[.pointer (some ⟨2,157,none⟩),.pointer (some p),.int .u64 406]) W:=by
 rw[rlm]
 simp only[Sem.run_bind,Ug,Result.andThen]
 simp[ReflectliteValue.elem,loadVar,isAgg,underlying,Tryz.underlying160,ha,Result.andThen,BZ,mkF]
theorem AA(a:Addr)(w:World):(ReflectliteValue.parts (.agg #[.pointer (some ⟨2,157,none⟩),.pointer (some a),.int .u64 406])).run Tryz.prog w=.ok (some (157,a,406)) w:=by kernel_rfl
theorem IK(a:Addr)(w:World):(ReflectliteValue.parts (.agg #[.pointer (some ⟨2,157,none⟩),.pointer (some a),.int .u64 150])).run Tryz.prog w=.ok (some (157,a,150)) w:=by kernel_rfl
theorem CD(w:World):(Rtype.directlyAssignable 157 157).run Tryz.prog w=.ok true w:=by kernel_rfl
theorem B8(n:Int)(w:World):(ReflectliteValue.unpack (.iface 57 (.int .i64 n))).run Tryz.prog w
  = .ok (.agg #[.pointer (some ⟨2,57,none⟩),.pointer (some ⟨w.heap.size,0,none⟩),.int .u64 130]) (w.alloc (.cells #[.int .i64 n] 57)):=by kernel_rfl
theorem B7(e:Addr)(w:World):(ReflectliteValue.unpack (.iface 157 (.pointer (some e)))).run Tryz.prog w
  = .ok (.agg #[.pointer (some ⟨2,157,none⟩),.pointer (some ⟨w.heap.size,0,none⟩),.int .u64 150]) (w.alloc (.cells #[.pointer (some e)] 157)):=by kernel_rfl
theorem TS(ta b e:Addr)(old:Value)(W:World)(hb:W.cell? b=some (.pointer (some e)))(ht:W.cell? ta=some old)(hf:W.frozen? ta=false) :
  (ReflectliteValue.set #[.agg #[.pointer (some ⟨2,157,none⟩),.pointer (some ta),.int .u64 406],.agg #[.pointer (some ⟨2,157,none⟩),.pointer (some b),.int .u64 150]]).run Tryz.prog W
   = .ok (.tuple #[]) (W.setCell ta (.pointer (some e))):=by
 rw[rls]
 simp only[Sem.run_bind,AA,IK,Result.andThen]
 simp[ReflectliteValue.flagAddr,loadVar,isAgg,underlying,Tryz.underlying157,hb,Result.andThen,CD,storeVar,Value.cells,storeCells,Addr.add]
 rw[run_store Tryz.prog W ta _ _ (by rfl)]
 simp[ht,hf]
theorem setE(ta b:Addr)(n:Int)(old:Value)(W:World)(hb:W.cell? b=some (.int .i64 n))(ht:W.cell? ta=some old)(hf:W.frozen? ta=false) :
  (ReflectliteValue.set #[.agg #[.pointer (some ⟨2,57,none⟩),.pointer (some ta),.int .u64 386],.agg #[.pointer (some ⟨2,57,none⟩),.pointer (some b),.int .u64 130]]).run Tryz.prog W
   = .ok (.tuple #[]) (W.setCell ta (.int .i64 n)):=by
 rw[rls]
 simp only[Sem.run_bind,AB,IL,Result.andThen]
 simp[ReflectliteValue.flagAddr,loadVar,isAgg,underlying,Tryz.underlying57,hb,Result.andThen,CE,storeVar,Value.cells,storeCells,Addr.add]
 rw[run_store Tryz.prog W ta _ _ (by rfl)]
 simp[ht,hf]
theorem B9(b o:Nat)(v:Value)(w:World)(h:w.cell? ⟨b,o+2,none⟩=some v):Calls Tryz.prog 398 #[.pointer (some ⟨b,o,none⟩)] w fun e w'=>e=.returned v∧w'=w:=by
 go_enter Tryz.func398,Tryz.ntmps398
 go_wp2
 go_ret
 exact⟨rfl,rfl⟩
end Go.Proofs.YtloabemenciijaaGreatDoor.Err
