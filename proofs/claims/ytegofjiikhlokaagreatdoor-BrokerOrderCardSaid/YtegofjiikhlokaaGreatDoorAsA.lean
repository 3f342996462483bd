/-
errors.As at the two targets of this program (an error number, a fault), by its own text: what it answers along a chain of faults. After the guide's worked example Toyas; the closed facts on the model's entries for internal/reflectlite at this dump's numbers.
-/
import Derived.Test.YtegofjiikhlokaaGreatDoorRows
import Derived.WalkKit
import Derived.LaidEql
import Derived.Stop.Asserts
import Derived.RowKitTokens
import Derived.RowKit3
namespace Go.Proofs.YtegofjiikhlokaaGreatDoor.Err
open Go.RowKit Go.Extern.Stop Go.Stop Go.Extern
def New(w w1:World):Prop:=Below w.heap.size w w1∧∀a,w1.frozen? a=w.frozen? a
theorem New.refl(w:World):New w w:=⟨Below.refl _ _,fun _=>rfl⟩
theorem New.alloc{w w1:World}(h:New w w1)(c:Array Value)(t:TypeId):New w (w1.alloc (.cells c t)) :=
 ⟨h.1.alloc h.1.size _,fun a=>(frozen?_alloc_cells _ _ _ a).trans (h.2 a)⟩
theorem New.trans{a b c:World}(h:New a b)(g:New b c):New a c:=⟨h.1.trans (g.1.mono h.1.size),fun x=>(g.2 x).trans (h.2 x)⟩
theorem rlm(z:Sem Value)(f:TypeId→Addr→Nat→Nat→Sem Value)(v:Value) :
  ReflectliteValue.method z f #[v]=(do match ←ReflectliteValue.parts v with|none=>z|some (t,a,fl)=>f t a fl (fl % 32)):=rfl
theorem rls(v x:Value):ReflectliteValue.set #[v,x]=(do
  let (some (dst,a,fl),some (src,b,_)):=(←ReflectliteValue.parts v,←ReflectliteValue.parts x)
   | unsupported (.noEntry "extern/(internal/reflectlite.Value).Set.zeroValue")
  if fl / ReflectliteValue.flagAddr % 2 == 0 then unsupported (.noEntry "extern/(internal/reflectlite.Value).Set.unaddressable")
  let val ←loadVar src b
  if ←Rtype.directlyAssignable dst src then storeVar dst a val
  else if ←Rtype.implements dst src then
   if(←Rtype.kind src) == 20 then
    match val with
    | .nilIface => unsupported (.noEntry "extern/reflectlite: a nil value of one interface type handed on as a value of another")
    | _=>storeVar dst a val
   else storeVar dst a (.iface src val)
  else panicString ("reflectlite.Set: value of type " ++ (← Rtype.spelt src) ++ " is not assignable to type " ++ (← Rtype.spelt dst))
  pure (.tuple #[])):=rfl
theorem Ki (h : Value) (w : World) : (Go.method 427 229 (.agg #[h]) "Kind").run Tryz.prog w = .ok (255, h) w := by kernel_rfl
theorem Kj (h : Value) (w : World) : (Go.method 427 229 (.agg #[h]) "Elem").run Tryz.prog w = .ok (267, .agg #[h]) w := by kernel_rfl
theorem uH (h : Value) (w : World) : (Go.method 427 229 (.agg #[h]) "Implements").run Tryz.prog w = .ok (268, .agg #[h]) w := by kernel_rfl
theorem nI (h : Value) (w : World) : (Go.method 427 229 (.agg #[h]) "AssignableTo").run Tryz.prog w = .ok (265, .agg #[h]) w := by kernel_rfl
theorem Tk (p : Addr) (w : World) : (Go.method 427 125 (.pointer (some p)) "Unwrap").run Tryz.prog w = .ok (260, .pointer (some p)) w := by kernel_rfl
theorem AeI(v:Value)(xT:TypeId)(w:World):(Instr.typeAssert (.iface 65 v) xT 234 true).run Tryz.prog w=.ok (.tuple #[.nilIface,.bool false]) w:=run_typeAssert_lacksB Tryz.underlying234 (by kernel_rfl) (by kernel_rfl) v xT w
theorem AeH(v:Value)(xT:TypeId)(w:World):(Instr.typeAssert (.iface 125 v) xT 234 true).run Tryz.prog w=.ok (.tuple #[.nilIface,.bool false]) w:=run_typeAssert_lacksB Tryz.underlying234 (by kernel_rfl) (by kernel_rfl) v xT w
theorem AeG(v:Value)(xT:TypeId)(w:World):(Instr.typeAssert (.iface 65 v) xT 237 true).run Tryz.prog w=.ok (.tuple #[.nilIface,.bool false]) w:=run_typeAssert_lacksB Tryz.underlying237 (by kernel_rfl) (by kernel_rfl) v xT w
theorem AfJ(v:Value)(xT:TypeId)(w:World):(Instr.typeAssert (.iface 125 v) xT 237 true).run Tryz.prog w=.ok (.tuple #[.iface 125 v,.bool true]) w:=run_typeAssert_hasB Tryz.underlying237 (by kernel_rfl) v xT w
theorem ZW(v:Value)(xT:TypeId)(w:World):(Instr.typeAssert (.iface 65 v) xT 239 true).run Tryz.prog w=.ok (.tuple #[.nilIface,.bool false]) w:=run_typeAssert_lacksB Tryz.underlying239 (by kernel_rfl) (by kernel_rfl) v xT w
theorem X7(v:Value)(w:World):(ReflectliteType.typeOf #[.iface 65 v]).run Tryz.prog w=.ok (.iface 229 (.agg #[.pointer (some ⟨2,65,none⟩)])) w:=by kernel_rfl
theorem X6(v:Value)(w:World):(ReflectliteType.typeOf #[.iface 125 v]).run Tryz.prog w=.ok (.iface 229 (.agg #[.pointer (some ⟨2,125,none⟩)])) w:=by kernel_rfl
theorem PT (w : World) : (ReflectliteType.relation "AssignableTo" ReflectliteType.assignableTo #[.agg #[.pointer (some ⟨2, 65, none⟩)], .iface 229 (.agg #[.pointer (some ⟨2, 65, none⟩)])]).run Tryz.prog w = .ok (.bool true) w := by kernel_rfl
theorem PQ (w : World) : (ReflectliteType.relation "AssignableTo" ReflectliteType.assignableTo #[.agg #[.pointer (some ⟨2, 125, none⟩)], .iface 229 (.agg #[.pointer (some ⟨2, 125, none⟩)])]).run Tryz.prog w = .ok (.bool true) w := by kernel_rfl
theorem PS (w : World) : (ReflectliteType.relation "AssignableTo" ReflectliteType.assignableTo #[.agg #[.pointer (some ⟨2, 65, none⟩)], .iface 229 (.agg #[.pointer (some ⟨2, 125, none⟩)])]).run Tryz.prog w = .ok (.bool false) w := by kernel_rfl
theorem PR (w : World) : (ReflectliteType.relation "AssignableTo" ReflectliteType.assignableTo #[.agg #[.pointer (some ⟨2, 125, none⟩)], .iface 229 (.agg #[.pointer (some ⟨2, 65, none⟩)])]).run Tryz.prog w = .ok (.bool false) w := by kernel_rfl
theorem RL(t:Addr)(w:World):(ReflectliteValue.unpack (.iface 122 (.pointer (some t)))).run Tryz.prog w
  = .ok (.agg #[.pointer (some ⟨2,122,none⟩),.pointer (some ⟨w.heap.size,0,none⟩),.int .u64 150]) (w.alloc (.cells #[.pointer (some t)] 122)):=by kernel_rfl
theorem AaH (a : Addr) (w : World) : (ReflectliteValue.methodAny (ReflectliteValue.valueError "reflectlite.Value.Type" 0) (fun t _ _ _ => ReflectliteType.toType t) #[.agg #[.pointer (some ⟨2, 122, none⟩), .pointer (some a), .int .u64 150]]).run Tryz.prog w
  = .ok (.iface 229 (.agg #[.pointer (some ⟨2,122,none⟩)])) w:=by kernel_rfl
theorem d7(w:World):((ReflectliteType.abiMethod fun t=>(fun a:Nat=>Value.int IntKind.u8 (a:Int)) <$> Rtype.kind t) #[.pointer (some ⟨2,122,none⟩)]).run Tryz.prog w=.ok (.int .u8 22) w:=by kernel_rfl
theorem AfG(w:World):((ReflectliteType.abiMethod fun t=>(fun a:Nat=>Value.int IntKind.u8 (a:Int)) <$> Rtype.kind t) #[.pointer (some ⟨2,65,none⟩)]).run Tryz.prog w=.ok (.int .u8 2) w:=by kernel_rfl
theorem AP(a:Addr)(w:World):(ReflectliteValue.parts (.agg #[.pointer (some ⟨2,122,none⟩),.pointer (some a),.int .u64 150])).run Tryz.prog w=.ok (some (122,a,150)) w:=by kernel_rfl
theorem i7(a p:Addr)(W:World)(ha:W.cell? a=some (.pointer (some p))) :
  (ReflectliteValue.method (ReflectliteValue.valueError "reflectlite.Value.IsNil" 0) ReflectliteValue.isNil #[.agg #[.pointer (some ⟨2, 122, none⟩), .pointer (some a), .int .u64 150]]).run Tryz.prog W = .ok (.bool false) W := by
 rw[rlm]
 simp only[Sem.run_bind,AP,Result.andThen]
 simp[ReflectliteValue.isNil,loadVar,isAgg,underlying,Tryz.underlying122,ha,Result.andThen]
theorem AgC(w:World):(ReflectliteType.method ReflectliteType.elem #[.agg #[.pointer (some ⟨2,122,none⟩)]]).run Tryz.prog w=.ok (.iface 229 (.agg #[.pointer (some ⟨2,65,none⟩)])) w:=by kernel_rfl
theorem Yz (w : World) : (ReflectliteType.relation "Implements" ReflectliteType.implements_ #[.agg #[.pointer (some ⟨2, 65, none⟩)], .iface 229 (.agg #[.pointer (some ⟨2, 59, none⟩)])]).run Tryz.prog w = .ok (.bool true) w := by kernel_rfl
theorem UT(w:World):(Rtype.elem? 122).run Tryz.prog w=.ok (some 65) w:=by kernel_rfl
theorem mkE(p:Addr)(w:World):(ReflectliteValue.mk 65 p ReflectliteValue.flagAddr).run Tryz.prog w=.ok (.agg #[.pointer (some ⟨2,65,none⟩),.pointer (some p),.int .u64 386]) w:=by kernel_rfl
theorem w7(a p:Addr)(W:World)(ha:W.cell? a=some (.pointer (some p))) :
  (ReflectliteValue.method (ReflectliteValue.valueError "reflectlite.Value.Elem" 0) ReflectliteValue.elem #[.agg #[.pointer (some ⟨2, 122, none⟩), .pointer (some a), .int .u64 150]]).run Tryz.prog W
   = .ok (.agg #[.pointer (some ⟨2,65,none⟩),.pointer (some p),.int .u64 386]) W:=by
 rw[rlm]
 simp only[Sem.run_bind,AP,Result.andThen]
 simp[ReflectliteValue.elem,loadVar,isAgg,underlying,Tryz.underlying122,ha,Result.andThen,UT,mkE]
theorem SV(a:Addr)(w:World):(ReflectliteValue.parts (.agg #[.pointer (some ⟨2,65,none⟩),.pointer (some a),.int .u64 386])).run Tryz.prog w=.ok (some (65,a,386)) w:=by kernel_rfl
theorem ZO(a:Addr)(w:World):(ReflectliteValue.parts (.agg #[.pointer (some ⟨2,65,none⟩),.pointer (some a),.int .u64 130])).run Tryz.prog w=.ok (some (65,a,130)) w:=by kernel_rfl
theorem VB(w:World):(Rtype.directlyAssignable 65 65).run Tryz.prog w=.ok true w:=by kernel_rfl
theorem RK(t:Addr)(w:World):(ReflectliteValue.unpack (.iface 128 (.pointer (some t)))).run Tryz.prog w
  = .ok (.agg #[.pointer (some ⟨2,128,none⟩),.pointer (some ⟨w.heap.size,0,none⟩),.int .u64 150]) (w.alloc (.cells #[.pointer (some t)] 128)):=by kernel_rfl
theorem AaG (a : Addr) (w : World) : (ReflectliteValue.methodAny (ReflectliteValue.valueError "reflectlite.Value.Type" 0) (fun t _ _ _ => ReflectliteType.toType t) #[.agg #[.pointer (some ⟨2, 128, none⟩), .pointer (some a), .int .u64 150]]).run Tryz.prog w
  = .ok (.iface 229 (.agg #[.pointer (some ⟨2,128,none⟩)])) w:=by kernel_rfl
theorem d6(w:World):((ReflectliteType.abiMethod fun t=>(fun a:Nat=>Value.int IntKind.u8 (a:Int)) <$> Rtype.kind t) #[.pointer (some ⟨2,128,none⟩)]).run Tryz.prog w=.ok (.int .u8 22) w:=by kernel_rfl
theorem AfF(w:World):((ReflectliteType.abiMethod fun t=>(fun a:Nat=>Value.int IntKind.u8 (a:Int)) <$> Rtype.kind t) #[.pointer (some ⟨2,125,none⟩)]).run Tryz.prog w=.ok (.int .u8 22) w:=by kernel_rfl
theorem AO(a:Addr)(w:World):(ReflectliteValue.parts (.agg #[.pointer (some ⟨2,128,none⟩),.pointer (some a),.int .u64 150])).run Tryz.prog w=.ok (some (128,a,150)) w:=by kernel_rfl
theorem i6(a p:Addr)(W:World)(ha:W.cell? a=some (.pointer (some p))) :
  (ReflectliteValue.method (ReflectliteValue.valueError "reflectlite.Value.IsNil" 0) ReflectliteValue.isNil #[.agg #[.pointer (some ⟨2, 128, none⟩), .pointer (some a), .int .u64 150]]).run Tryz.prog W = .ok (.bool false) W := by
 rw[rlm]
 simp only[Sem.run_bind,AO,Result.andThen]
 simp[ReflectliteValue.isNil,loadVar,isAgg,underlying,Tryz.underlying128,ha,Result.andThen]
theorem AgB(w:World):(ReflectliteType.method ReflectliteType.elem #[.agg #[.pointer (some ⟨2,128,none⟩)]]).run Tryz.prog w=.ok (.iface 229 (.agg #[.pointer (some ⟨2,125,none⟩)])) w:=by kernel_rfl
theorem Yy (w : World) : (ReflectliteType.relation "Implements" ReflectliteType.implements_ #[.agg #[.pointer (some ⟨2, 125, none⟩)], .iface 229 (.agg #[.pointer (some ⟨2, 59, none⟩)])]).run Tryz.prog w = .ok (.bool true) w := by kernel_rfl
theorem US(w:World):(Rtype.elem? 128).run Tryz.prog w=.ok (some 125) w:=by kernel_rfl
theorem mkF(p:Addr)(w:World):(ReflectliteValue.mk 125 p ReflectliteValue.flagAddr).run Tryz.prog w=.ok (.agg #[.pointer (some ⟨2,125,none⟩),.pointer (some p),.int .u64 406]) w:=by kernel_rfl
theorem v9(a p:Addr)(W:World)(ha:W.cell? a=some (.pointer (some p))) :
  (ReflectliteValue.method (ReflectliteValue.valueError "reflectlite.Value.Elem" 0) ReflectliteValue.elem #[.agg #[.pointer (some ⟨2, 128, none⟩), .pointer (some a), .int .u64 150]]).run Tryz.prog W
   = .ok (.agg #[.pointer (some ⟨2,125,none⟩),.pointer (some p),.int .u64 406]) W:=by
 rw[rlm]
 simp only[Sem.run_bind,AO,Result.andThen]
 simp[ReflectliteValue.elem,loadVar,isAgg,underlying,Tryz.underlying128,ha,Result.andThen,US,mkF]
theorem SU(a:Addr)(w:World):(ReflectliteValue.parts (.agg #[.pointer (some ⟨2,125,none⟩),.pointer (some a),.int .u64 406])).run Tryz.prog w=.ok (some (125,a,406)) w:=by kernel_rfl
theorem ZN(a:Addr)(w:World):(ReflectliteValue.parts (.agg #[.pointer (some ⟨2,125,none⟩),.pointer (some a),.int .u64 150])).run Tryz.prog w=.ok (some (125,a,150)) w:=by kernel_rfl
theorem VA(w:World):(Rtype.directlyAssignable 125 125).run Tryz.prog w=.ok true w:=by kernel_rfl
theorem JF(n:Int)(w:World):(ReflectliteValue.unpack (.iface 65 (.int .i64 n))).run Tryz.prog w
  = .ok (.agg #[.pointer (some ⟨2,65,none⟩),.pointer (some ⟨w.heap.size,0,none⟩),.int .u64 130]) (w.alloc (.cells #[.int .i64 n] 65)):=by kernel_rfl
theorem JE(e:Addr)(w:World):(ReflectliteValue.unpack (.iface 125 (.pointer (some e)))).run Tryz.prog w
  = .ok (.agg #[.pointer (some ⟨2,125,none⟩),.pointer (some ⟨w.heap.size,0,none⟩),.int .u64 150]) (w.alloc (.cells #[.pointer (some e)] 125)):=by kernel_rfl
theorem setF(ta b e:Addr)(old:Value)(W:World)(hb:W.cell? b=some (.pointer (some e)))(ht:W.cell? ta=some old)(hf:W.frozen? ta=false) :
  (ReflectliteValue.set #[.agg #[.pointer (some ⟨2,125,none⟩),.pointer (some ta),.int .u64 406],.agg #[.pointer (some ⟨2,125,none⟩),.pointer (some b),.int .u64 150]]).run Tryz.prog W
   = .ok (.tuple #[]) (W.setCell ta (.pointer (some e))):=by
 rw[rls]
 simp only[Sem.run_bind,SU,ZN,Result.andThen]
 simp[ReflectliteValue.flagAddr,loadVar,isAgg,underlying,Tryz.underlying125,hb,Result.andThen,VA,storeVar,Value.cells,storeCells,Addr.add]
 rw[run_store Tryz.prog W ta _ _ (by rfl)]
 simp[ht,hf]
theorem setE(ta b:Addr)(n:Int)(old:Value)(W:World)(hb:W.cell? b=some (.int .i64 n))(ht:W.cell? ta=some old)(hf:W.frozen? ta=false) :
  (ReflectliteValue.set #[.agg #[.pointer (some ⟨2,65,none⟩),.pointer (some ta),.int .u64 386],.agg #[.pointer (some ⟨2,65,none⟩),.pointer (some b),.int .u64 130]]).run Tryz.prog W
   = .ok (.tuple #[]) (W.setCell ta (.int .i64 n)):=by
 rw[rls]
 simp only[Sem.run_bind,SV,ZO,Result.andThen]
 simp[ReflectliteValue.flagAddr,loadVar,isAgg,underlying,Tryz.underlying65,hb,Result.andThen,VB,storeVar,Value.cells,storeCells,Addr.add]
 rw[run_store Tryz.prog W ta _ _ (by rfl)]
 simp[ht,hf]
theorem JH(b o:Nat)(v:Value)(w:World)(h:w.cell? ⟨b,o+2,none⟩=some v):Calls Tryz.prog 260 #[.pointer (some ⟨b,o,none⟩)] w fun e w'=>e=.returned v∧w'=w:=by
 go_enter Tryz.func260,Tryz.ntmps260
 go_wp2
 go_ret
 exact⟨rfl,rfl⟩
end Go.Proofs.YtegofjiikhlokaaGreatDoor.Err
