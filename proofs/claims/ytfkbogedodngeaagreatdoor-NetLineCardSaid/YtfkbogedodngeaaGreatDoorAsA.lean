/-
errors.As at the two targets of this program (an error number, a fault), by its own text: what it answers along a chain of faults. After the guide's worked example Toyas; the closed facts on the model's entries for internal/reflectlite at this dump's numbers.
-/
import Derived.Test.YtfkbogedodngeaaGreatDoorRows
import Derived.WalkKit
import Derived.LaidEql
import Derived.Stop.Asserts
import Derived.RowKitTokens
import Derived.RowKit3
namespace Go.Proofs.YtfkbogedodngeaaGreatDoor.Err
open Go.RowKit Go.Extern.Stop Go.Stop Go.Extern
def New(w w1:World):Prop:=Below w.heap.size w w1∧(∀a,w1.frozen? a=w.frozen? a)∧w.drawn≤w1.drawn
theorem New.refl(w:World):New w w:=⟨Below.refl _ _,fun _=>rfl,Nat.le_refl _⟩
theorem New.alloc{w w1:World}(h:New w w1)(c:Array Value)(t:TypeId):New w (w1.alloc (.cells c t)) :=
 ⟨h.1.alloc h.1.size _,fun a=>(frozen?_alloc_cells _ _ _ a).trans (h.2.1 a),h.2.2⟩
theorem New.trans{a b c:World}(h:New a b)(g:New b c):New a c:=⟨h.1.trans (g.1.mono h.1.size),fun x=>(g.2.1 x).trans (h.2.1 x),Nat.le_trans h.2.2 g.2.2⟩
theorem rlm(z:Sem Value)(f:TypeId→Addr→Nat→Nat→Sem Value)(v:Value) :
  ReflectliteValue.method z f #[v]=(do match ←ReflectliteValue.parts v with|none=>z|some (t,a,fl)=>f t a fl (fl % 32)):=rfl
theorem rls(v x:Value):ReflectliteValue.set #[v,x]=(do
  let (some (dst,a,fl),some (src,b,_)):=(←ReflectliteValue.parts v,←ReflectliteValue.parts x)
   | unsupported (.noEntry "extern/(internal/reflectlite.Value).Set.zeroValue")
  if fl / ReflectliteValue.flagAddr % 2 == 0 then unsupported (.noEntry "extern/(internal/reflectlite.Value).Set.unaddressable")
  let val ←loadVar src b
  if ←Rtype.directlyAssignable dst src then storeVar dst a val
  else if ←Rtype.implements dst src then
   if(←Rtype.kind src) == 20 then
    match val with
    | .nilIface => unsupported (.noEntry "extern/reflectlite: a nil value of one interface type handed on as a value of another")
    | _=>storeVar dst a val
   else storeVar dst a (.iface src val)
  else panicString ("reflectlite.Set: value of type " ++ (← Rtype.spelt src) ++ " is not assignable to type " ++ (← Rtype.spelt dst))
  pure (.tuple #[])):=rfl
theorem Hb (h : Value) (w : World) : (Go.method 557 308 (.agg #[h]) "Kind").run Tryz.prog w = .ok (356, h) w := by kernel_rfl
theorem Hc (h : Value) (w : World) : (Go.method 557 308 (.agg #[h]) "Elem").run Tryz.prog w = .ok (372, .agg #[h]) w := by kernel_rfl
theorem sF (h : Value) (w : World) : (Go.method 557 308 (.agg #[h]) "Implements").run Tryz.prog w = .ok (373, .agg #[h]) w := by kernel_rfl
theorem kH (h : Value) (w : World) : (Go.method 557 308 (.agg #[h]) "AssignableTo").run Tryz.prog w = .ok (370, .agg #[h]) w := by kernel_rfl
theorem Pp (p : Addr) (w : World) : (Go.method 557 140 (.pointer (some p)) "Unwrap").run Tryz.prog w = .ok (361, .pointer (some p)) w := by kernel_rfl
theorem v6(v:Value)(xT:TypeId)(w:World):(Instr.typeAssert (.iface 57 v) xT 313 true).run Tryz.prog w=.ok (.tuple #[.nilIface,.bool false]) w:=run_typeAssert_lacksB Tryz.underlying313 (by kernel_rfl) (by kernel_rfl) v xT w
theorem u9(v:Value)(xT:TypeId)(w:World):(Instr.typeAssert (.iface 140 v) xT 313 true).run Tryz.prog w=.ok (.tuple #[.nilIface,.bool false]) w:=run_typeAssert_lacksB Tryz.underlying313 (by kernel_rfl) (by kernel_rfl) v xT w
theorem u7(v:Value)(xT:TypeId)(w:World):(Instr.typeAssert (.iface 57 v) xT 316 true).run Tryz.prog w=.ok (.tuple #[.nilIface,.bool false]) w:=run_typeAssert_lacksB Tryz.underlying316 (by kernel_rfl) (by kernel_rfl) v xT w
theorem z6(v:Value)(xT:TypeId)(w:World):(Instr.typeAssert (.iface 140 v) xT 316 true).run Tryz.prog w=.ok (.tuple #[.iface 140 v,.bool true]) w:=run_typeAssert_hasB Tryz.underlying316 (by kernel_rfl) v xT w
theorem VG(v:Value)(xT:TypeId)(w:World):(Instr.typeAssert (.iface 57 v) xT 318 true).run Tryz.prog w=.ok (.tuple #[.nilIface,.bool false]) w:=run_typeAssert_lacksB Tryz.underlying318 (by kernel_rfl) (by kernel_rfl) v xT w
theorem N7(v:Value)(w:World):(ReflectliteType.typeOf #[.iface 57 v]).run Tryz.prog w=.ok (.iface 308 (.agg #[.pointer (some ⟨2,57,none⟩)])) w:=by kernel_rfl
theorem N6(v:Value)(w:World):(ReflectliteType.typeOf #[.iface 140 v]).run Tryz.prog w=.ok (.iface 308 (.agg #[.pointer (some ⟨2,140,none⟩)])) w:=by kernel_rfl
theorem KS (w : World) : (ReflectliteType.relation "AssignableTo" ReflectliteType.assignableTo #[.agg #[.pointer (some ⟨2, 57, none⟩)], .iface 308 (.agg #[.pointer (some ⟨2, 57, none⟩)])]).run Tryz.prog w = .ok (.bool true) w := by kernel_rfl
theorem KP (w : World) : (ReflectliteType.relation "AssignableTo" ReflectliteType.assignableTo #[.agg #[.pointer (some ⟨2, 140, none⟩)], .iface 308 (.agg #[.pointer (some ⟨2, 140, none⟩)])]).run Tryz.prog w = .ok (.bool true) w := by kernel_rfl
theorem KR (w : World) : (ReflectliteType.relation "AssignableTo" ReflectliteType.assignableTo #[.agg #[.pointer (some ⟨2, 57, none⟩)], .iface 308 (.agg #[.pointer (some ⟨2, 140, none⟩)])]).run Tryz.prog w = .ok (.bool false) w := by kernel_rfl
theorem KQ (w : World) : (ReflectliteType.relation "AssignableTo" ReflectliteType.assignableTo #[.agg #[.pointer (some ⟨2, 140, none⟩)], .iface 308 (.agg #[.pointer (some ⟨2, 57, none⟩)])]).run Tryz.prog w = .ok (.bool false) w := by kernel_rfl
theorem MU(t:Addr)(w:World):(ReflectliteValue.unpack (.iface 137 (.pointer (some t)))).run Tryz.prog w
  = .ok (.agg #[.pointer (some ⟨2,137,none⟩),.pointer (some ⟨w.heap.size,0,none⟩),.int .u64 150]) (w.alloc (.cells #[.pointer (some t)] 137)):=by kernel_rfl
theorem YA (a : Addr) (w : World) : (ReflectliteValue.methodAny (ReflectliteValue.valueError "reflectlite.Value.Type" 0) (fun t _ _ _ => ReflectliteType.toType t) #[.agg #[.pointer (some ⟨2, 137, none⟩), .pointer (some a), .int .u64 150]]).run Tryz.prog w
  = .ok (.iface 308 (.agg #[.pointer (some ⟨2,137,none⟩)])) w:=by kernel_rfl
theorem VT(w:World):((ReflectliteType.abiMethod fun t=>(fun a:Nat=>Value.int IntKind.u8 (a:Int)) <$> Rtype.kind t) #[.pointer (some ⟨2,137,none⟩)]).run Tryz.prog w=.ok (.int .u8 22) w:=by kernel_rfl
theorem x9(w:World):((ReflectliteType.abiMethod fun t=>(fun a:Nat=>Value.int IntKind.u8 (a:Int)) <$> Rtype.kind t) #[.pointer (some ⟨2,57,none⟩)]).run Tryz.prog w=.ok (.int .u8 2) w:=by kernel_rfl
theorem Q8(a:Addr)(w:World):(ReflectliteValue.parts (.agg #[.pointer (some ⟨2,137,none⟩),.pointer (some a),.int .u64 150])).run Tryz.prog w=.ok (some (137,a,150)) w:=by kernel_rfl
theorem VW(a p:Addr)(W:World)(ha:W.cell? a=some (.pointer (some p))) :
  (ReflectliteValue.method (ReflectliteValue.valueError "reflectlite.Value.IsNil" 0) ReflectliteValue.isNil #[.agg #[.pointer (some ⟨2, 137, none⟩), .pointer (some a), .int .u64 150]]).run Tryz.prog W = .ok (.bool false) W := by
 rw[rlm]
 simp only[Sem.run_bind,Q8,Result.andThen]
 simp[ReflectliteValue.isNil,loadVar,isAgg,underlying,Tryz.underlying137,ha,Result.andThen]
theorem AaA(w:World):(ReflectliteType.method ReflectliteType.elem #[.agg #[.pointer (some ⟨2,137,none⟩)]]).run Tryz.prog w=.ok (.iface 308 (.agg #[.pointer (some ⟨2,57,none⟩)])) w:=by kernel_rfl
theorem Vb (w : World) : (ReflectliteType.relation "Implements" ReflectliteType.implements_ #[.agg #[.pointer (some ⟨2, 57, none⟩)], .iface 308 (.agg #[.pointer (some ⟨2, 41, none⟩)])]).run Tryz.prog w = .ok (.bool true) w := by kernel_rfl
theorem QH(w:World):(Rtype.elem? 137).run Tryz.prog w=.ok (some 57) w:=by kernel_rfl
theorem mkE(p:Addr)(w:World):(ReflectliteValue.mk 57 p ReflectliteValue.flagAddr).run Tryz.prog w=.ok (.agg #[.pointer (some ⟨2,57,none⟩),.pointer (some p),.int .u64 386]) w:=by kernel_rfl
theorem XA(a p:Addr)(W:World)(ha:W.cell? a=some (.pointer (some p))) :
  (ReflectliteValue.method (ReflectliteValue.valueError "reflectlite.Value.Elem" 0) ReflectliteValue.elem #[.agg #[.pointer (some ⟨2, 137, none⟩), .pointer (some a), .int .u64 150]]).run Tryz.prog W
   = .ok (.agg #[.pointer (some ⟨2,57,none⟩),.pointer (some p),.int .u64 386]) W:=by
 rw[rlm]
 simp only[Sem.run_bind,Q8,Result.andThen]
 simp[ReflectliteValue.elem,loadVar,isAgg,underlying,Tryz.underlying137,ha,Result.andThen,QH,mkE]
theorem OC(a:Addr)(w:World):(ReflectliteValue.parts (.agg #[.pointer (some ⟨2,57,none⟩),.pointer (some a),.int .u64 386])).run Tryz.prog w=.ok (some (57,a,386)) w:=by kernel_rfl
theorem UX(a:Addr)(w:World):(ReflectliteValue.parts (.agg #[.pointer (some ⟨2,57,none⟩),.pointer (some a),.int .u64 130])).run Tryz.prog w=.ok (some (57,a,130)) w:=by kernel_rfl
theorem QJ(w:World):(Rtype.directlyAssignable 57 57).run Tryz.prog w=.ok true w:=by kernel_rfl
theorem MT(t:Addr)(w:World):(ReflectliteValue.unpack (.iface 143 (.pointer (some t)))).run Tryz.prog w
  = .ok (.agg #[.pointer (some ⟨2,143,none⟩),.pointer (some ⟨w.heap.size,0,none⟩),.int .u64 150]) (w.alloc (.cells #[.pointer (some t)] 143)):=by kernel_rfl
theorem XZ (a : Addr) (w : World) : (ReflectliteValue.methodAny (ReflectliteValue.valueError "reflectlite.Value.Type" 0) (fun t _ _ _ => ReflectliteType.toType t) #[.agg #[.pointer (some ⟨2, 143, none⟩), .pointer (some a), .int .u64 150]]).run Tryz.prog w
  = .ok (.iface 308 (.agg #[.pointer (some ⟨2,143,none⟩)])) w:=by kernel_rfl
theorem VS(w:World):((ReflectliteType.abiMethod fun t=>(fun a:Nat=>Value.int IntKind.u8 (a:Int)) <$> Rtype.kind t) #[.pointer (some ⟨2,143,none⟩)]).run Tryz.prog w=.ok (.int .u8 22) w:=by kernel_rfl
theorem x7(w:World):((ReflectliteType.abiMethod fun t=>(fun a:Nat=>Value.int IntKind.u8 (a:Int)) <$> Rtype.kind t) #[.pointer (some ⟨2,140,none⟩)]).run Tryz.prog w=.ok (.int .u8 22) w:=by kernel_rfl
theorem Q6(a:Addr)(w:World):(ReflectliteValue.parts (.agg #[.pointer (some ⟨2,143,none⟩),.pointer (some a),.int .u64 150])).run Tryz.prog w=.ok (some (143,a,150)) w:=by kernel_rfl
theorem VV(a p:Addr)(W:World)(ha:W.cell? a=some (.pointer (some p))) :
  (ReflectliteValue.method (ReflectliteValue.valueError "reflectlite.Value.IsNil" 0) ReflectliteValue.isNil #[.agg #[.pointer (some ⟨2, 143, none⟩), .pointer (some a), .int .u64 150]]).run Tryz.prog W = .ok (.bool false) W := by
 rw[rlm]
 simp only[Sem.run_bind,Q6,Result.andThen]
 simp[ReflectliteValue.isNil,loadVar,isAgg,underlying,Tryz.underlying143,ha,Result.andThen]
theorem z9(w:World):(ReflectliteType.method ReflectliteType.elem #[.agg #[.pointer (some ⟨2,143,none⟩)]]).run Tryz.prog w=.ok (.iface 308 (.agg #[.pointer (some ⟨2,140,none⟩)])) w:=by kernel_rfl
theorem Va (w : World) : (ReflectliteType.relation "Implements" ReflectliteType.implements_ #[.agg #[.pointer (some ⟨2, 140, none⟩)], .iface 308 (.agg #[.pointer (some ⟨2, 41, none⟩)])]).run Tryz.prog w = .ok (.bool true) w := by kernel_rfl
theorem QG(w:World):(Rtype.elem? 143).run Tryz.prog w=.ok (some 140) w:=by kernel_rfl
theorem mkF(p:Addr)(w:World):(ReflectliteValue.mk 140 p ReflectliteValue.flagAddr).run Tryz.prog w=.ok (.agg #[.pointer (some ⟨2,140,none⟩),.pointer (some p),.int .u64 406]) w:=by kernel_rfl
theorem WZ(a p:Addr)(W:World)(ha:W.cell? a=some (.pointer (some p))) :
  (ReflectliteValue.method (ReflectliteValue.valueError "reflectlite.Value.Elem" 0) ReflectliteValue.elem #[.agg #[.pointer (some ⟨2, 143, none⟩), .pointer (some a), .int .u64 150]]).run Tryz.prog W
   = .ok (.agg #[.pointer (some ⟨2,140,none⟩),.pointer (some p),.int .u64 406]) W:=by
 rw[rlm]
 simp only[Sem.run_bind,Q6,Result.andThen]
 simp[ReflectliteValue.elem,loadVar,isAgg,underlying,Tryz.underlying143,ha,Result.andThen,QG,mkF]
theorem OB(a:Addr)(w:World):(ReflectliteValue.parts (.agg #[.pointer (some ⟨2,140,none⟩),.pointer (some a),.int .u64 406])).run Tryz.prog w=.ok (some (140,a,406)) w:=by kernel_rfl
theorem UW(a:Addr)(w:World):(ReflectliteValue.parts (.agg #[.pointer (some ⟨2,140,none⟩),.pointer (some a),.int .u64 150])).run Tryz.prog w=.ok (some (140,a,150)) w:=by kernel_rfl
theorem QI(w:World):(Rtype.directlyAssignable 140 140).run Tryz.prog w=.ok true w:=by kernel_rfl
theorem EM(n:Int)(w:World):(ReflectliteValue.unpack (.iface 57 (.int .i64 n))).run Tryz.prog w
  = .ok (.agg #[.pointer (some ⟨2,57,none⟩),.pointer (some ⟨w.heap.size,0,none⟩),.int .u64 130]) (w.alloc (.cells #[.int .i64 n] 57)):=by kernel_rfl
theorem EL(e:Addr)(w:World):(ReflectliteValue.unpack (.iface 140 (.pointer (some e)))).run Tryz.prog w
  = .ok (.agg #[.pointer (some ⟨2,140,none⟩),.pointer (some ⟨w.heap.size,0,none⟩),.int .u64 150]) (w.alloc (.cells #[.pointer (some e)] 140)):=by kernel_rfl
theorem setF(ta b e:Addr)(old:Value)(W:World)(hb:W.cell? b=some (.pointer (some e)))(ht:W.cell? ta=some old)(hf:W.frozen? ta=false) :
  (ReflectliteValue.set #[.agg #[.pointer (some ⟨2,140,none⟩),.pointer (some ta),.int .u64 406],.agg #[.pointer (some ⟨2,140,none⟩),.pointer (some b),.int .u64 150]]).run Tryz.prog W
   = .ok (.tuple #[]) (W.setCell ta (.pointer (some e))):=by
 rw[rls]
 simp only[Sem.run_bind,OB,UW,Result.andThen]
 simp[ReflectliteValue.flagAddr,loadVar,isAgg,underlying,Tryz.underlying140,hb,Result.andThen,QI,storeVar,Value.cells,storeCells,Addr.add]
 rw[run_store Tryz.prog W ta _ _ (by rfl)]
 simp[ht,hf]
theorem setE(ta b:Addr)(n:Int)(old:Value)(W:World)(hb:W.cell? b=some (.int .i64 n))(ht:W.cell? ta=some old)(hf:W.frozen? ta=false) :
  (ReflectliteValue.set #[.agg #[.pointer (some ⟨2,57,none⟩),.pointer (some ta),.int .u64 386],.agg #[.pointer (some ⟨2,57,none⟩),.pointer (some b),.int .u64 130]]).run Tryz.prog W
   = .ok (.tuple #[]) (W.setCell ta (.int .i64 n)):=by
 rw[rls]
 simp only[Sem.run_bind,OC,UX,Result.andThen]
 simp[ReflectliteValue.flagAddr,loadVar,isAgg,underlying,Tryz.underlying57,hb,Result.andThen,QJ,storeVar,Value.cells,storeCells,Addr.add]
 rw[run_store Tryz.prog W ta _ _ (by rfl)]
 simp[ht,hf]
theorem EO(b o:Nat)(v:Value)(w:World)(h:w.cell? ⟨b,o+2,none⟩=some v):Calls Tryz.prog 361 #[.pointer (some ⟨b,o,none⟩)] w fun e w'=>e=.returned v∧w'=w:=by
 go_enter Tryz.func361,Tryz.ntmps361
 go_wp2
 go_ret
 exact⟨rfl,rfl⟩
end Go.Proofs.YtfkbogedodngeaaGreatDoor.Err
