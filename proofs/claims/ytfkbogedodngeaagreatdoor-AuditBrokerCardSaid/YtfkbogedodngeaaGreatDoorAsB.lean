/-
errors.as along a chain of faults; errors.As at the two targets.
-/
import Derived.Test.YtfkbogedodngeaaGreatDoorAsA
import Derived.Test.YtfkbogedodngeaaGreatDoorMm4
set_option maxRecDepth 100000
namespace Go.Proofs.YtfkbogedodngeaaGreatDoor.Err
open Go.RowKit Go.Extern.Stop Go.Stop Go.Extern
abbrev tT(w:World)(v:Value)(r:Option Int)(n:Nat):Prop:=Go.Dm.rK 57 140 w v r n
theorem Ci{w:World}{r:Option Int}{n:Nat}(h:tT w .nilIface r n):False:=by cases h
theorem Su{w:World}{v:Value}{r r':Option Int}{n n':Nat}(h:tT w v r n)(h':tT w v r' n'):n=n'∧r=r':=by
 induction h generalizing r' n' with
 | hit n=>cases h';exact⟨rfl,rfl⟩
 | step b o v r n hc h ih =>
  cases h' with
  | step _ _ v' r' n' EI h' =>
   rw[hc]at EI;cases EI
   obtain⟨e1,e2⟩:=ih h'
   exact⟨by rw[e1],e2⟩
  | stop _ _ EI=>rw[hc]at EI;cases EI;exact(Ci h).elim
 | stop b o hc =>
  cases h' with
  | step _ _ v' r' n' EI h'=>rw[hc]at EI;cases EI;exact(Ci h').elim
  | stop _ _ EI=>exact⟨rfl,rfl⟩
open Classical in
noncomputable def XX(w:World)(v:Value):Nat:=if h:∃ n r,tT w v r n then h.choose else 0
theorem Gi{w:World}{v:Value}{r:Option Int}{n:Nat}(h:tT w v r n):XX w v=n:=by
 have hx:∃ n r,tT w v r n:=⟨n,r,h⟩
 unfold XX
 rw[dif_pos hx]
 obtain⟨r',vN⟩:=hx.choose_spec
 exact(Su vN h).1
theorem Fa{w:World}{v:Value}{r:Option Int}{n:Nat}(h:tT w v r n):∃ t x,v=.iface t x:=by
 cases h<;>exact⟨_,_,rfl⟩
theorem sJ{w:World}{a:Addr}{v:Value}(h:w.cell? a=some v):a.block<w.heap.size:=by
 rcases Nat.lt_or_ge a.block w.heap.size with h1|h1
 ·exact h1
 ·simp[World.cell?,Array.getElem?_eq_none h1]at h
def NI(w:World)(p:Addr)(r:Option Int)(e:Ending)(w':World):Prop :=
 e=.returned (.bool r.isSome)∧∃ w1,New w w1∧w'=match r with|some n=>w1.setCell p (.int .i64 n)|none=>w1
set_option maxHeartbeats 4000000 in
theorem as2E(v:Value)(r:Option Int)(n:Nat)(p a:Addr)(old:Value)(w:World)(NS:tT w v r n)(ha:w.cell? a=some (.pointer (some p)))(hp:w.cell? p=some old)(hf:w.frozen? p=false)(hap:a.block<w.heap.size)(N1:p.block<w.heap.size) :
  Calls Tryz.prog 141 #[v,.iface 137 (.pointer (some p)),.agg #[.pointer (some ⟨2,137,none⟩),.pointer (some a),.int .u64 150],.iface 308 (.agg #[.pointer (some ⟨2,57,none⟩)])] w (NI w p r):=by
 have jY:=@run_callFunc_extern Tryz.prog 215 _ ReflectliteType.typeOf Tryz.func215 (by kernel_rfl) (by kernel_rfl) (by kernel_rfl) (by kernel_rfl)
 have h35 := @run_callFunc_extern Tryz.prog 370 _ (ReflectliteType.relation "AssignableTo" ReflectliteType.assignableTo) Tryz.func370 (by kernel_rfl) (by kernel_rfl) (by kernel_rfl) (by kernel_rfl)
 have pT := @run_callFunc_extern Tryz.prog 216 _ (ReflectliteValue.method (ReflectliteValue.valueError "reflectlite.Value.Elem" 0) ReflectliteValue.elem) Tryz.func216 (by kernel_rfl) (by kernel_rfl) (by kernel_rfl) (by kernel_rfl)
 have pS:=@run_callFunc_extern Tryz.prog 217 _ ReflectliteValue.set Tryz.func217 (by kernel_rfl) (by kernel_rfl) (by kernel_rfl) (by kernel_rfl)
 have h6:=@run_callFunc_extern Tryz.prog 138 _ (fun args=>ReflectliteValue.unpack (args.getD 0 (.tuple #[]))) Tryz.func138 (by kernel_rfl) (by kernel_rfl) (by kernel_rfl) (by kernel_rfl)
 have tE:=S5
 have tF:=S4
 have mA:=mD
 have aEE:=MV
 have aFE:=MT
 have nF:=k9
 have uF:=n7
 have mU:=Rq
 have vE:=GU
 go_enter Tryz.func141,Tryz.ntmps141
 go_wp2
 go_loop [0] (fun e=>∃ n,tT w e r n) (fun e=>XX w e)
 case atStart=>exact⟨n,NS⟩
 case round =>
  obtain⟨k,hk⟩:=hrel
  cases hk with
  | hit m =>
   have el:=XR a p (w.alloc (.cells #[.pointer (some ⟨2,137,none⟩),.pointer (some a),.int .u64 150] 226)) (by rw[World.cell?_alloc_lt _ _ a hap];exact ha)
   have st:=setE p ⟨w.heap.size+1,0,none⟩ m old ((w.alloc (.cells #[.pointer (some ⟨2,137,none⟩),.pointer (some a),.int .u64 150] 226)).alloc (.cells #[.int .i64 m] 57)) (by rw[World.cell?_alloc_at _ _ _ _ (by simp)];rfl)
    (by rw[World.cell?_alloc_lt _ _ p (by simp;omega),World.cell?_alloc_lt _ _ p N1];exact hp)
    (by rw[World.frozen?_alloc_old _ _ p (by simp;omega),World.frozen?_alloc_old _ _ p (by omega)];exact hf)
   go_wp2
   go_ret
   exact⟨rfl,_,((New.refl _).alloc _ _).alloc _ _,rfl⟩
  | step b o v' r' k' hc pP =>
   obtain⟨t',x',rfl⟩:=Fa pP
   have N9:=Gi (.step b o _ r k' hc pP:tT w _ r (k'+1))
   have LF:=Gi pP
   have hb:b<w.heap.size:=sJ hc
   have vP:(w.alloc (.cells #[.pointer (some ⟨2,137,none⟩),.pointer (some a),.int .u64 150] 226)).cell? ⟨b,o+2,none⟩=some (.iface t' x'):=by rw[World.cell?_alloc_lt _ _ _ (by exact hb)];exact hc
   go_wp2_with (go_at_call 361;refine(GW b o _ _ vP).mono ?_;rintro e w' ⟨rfl,rfl⟩)
   go_round
   case rel=>exact⟨k',pP⟩
   case measure=>rw[N9,LF];omega
  | stop b o hc =>
   have hb:b<w.heap.size:=sJ hc
   have vP:(w.alloc (.cells #[.pointer (some ⟨2,137,none⟩),.pointer (some a),.int .u64 150] 226)).cell? ⟨b,o+2,none⟩=some .nilIface:=by rw[World.cell?_alloc_lt _ _ _ (by exact hb)];exact hc
   go_wp2_with (go_at_call 361;refine(GW b o _ _ vP).mono ?_;rintro e w' ⟨rfl,rfl⟩)
   go_ret
   exact⟨rfl,_,(New.refl _).alloc _ _,rfl⟩
theorem Q2{w W:World}(hc:∀b o,b<w.heap.size→W.cell? ⟨b,o,none⟩=w.cell? ⟨b,o,none⟩){v:Value}{r:Option Int}{n:Nat}(h:tT w v r n):tT W v r n:=by
 induction h with
 | hit n=>exact .hit n
 | step b o v r n hv _ ih=>exact .step b o v r n (by rw[hc b (o+2) (sJ hv)];exact hv) ih
 | stop b o hv=>exact .stop b o (by rw[hc b (o+2) (sJ hv)];exact hv)
def Gl(w:World)(p:Addr)(r:Option Addr)(e:Ending)(w':World):Prop :=
 e=.returned (.bool r.isSome)∧∃ w1,New w w1∧w'=match r with|some q=>w1.setCell p (.pointer (some q))|none=>w1
set_option maxHeartbeats 4000000 in
theorem MX(q p a:Addr)(old:Value)(w:World)(ha:w.cell? a=some (.pointer (some p)))(hp:w.cell? p=some old)(hf:w.frozen? p=false)(hap:a.block<w.heap.size)(N1:p.block<w.heap.size) :
  Calls Tryz.prog 141 #[.iface 140 (.pointer (some q)),.iface 143 (.pointer (some p)),.agg #[.pointer (some ⟨2,143,none⟩),.pointer (some a),.int .u64 150],.iface 308 (.agg #[.pointer (some ⟨2,140,none⟩)])] w (Gl w p (some q)):=by
 have jY:=@run_callFunc_extern Tryz.prog 215 _ ReflectliteType.typeOf Tryz.func215 (by kernel_rfl) (by kernel_rfl) (by kernel_rfl) (by kernel_rfl)
 have h35 := @run_callFunc_extern Tryz.prog 370 _ (ReflectliteType.relation "AssignableTo" ReflectliteType.assignableTo) Tryz.func370 (by kernel_rfl) (by kernel_rfl) (by kernel_rfl) (by kernel_rfl)
 have pT := @run_callFunc_extern Tryz.prog 216 _ (ReflectliteValue.method (ReflectliteValue.valueError "reflectlite.Value.Elem" 0) ReflectliteValue.elem) Tryz.func216 (by kernel_rfl) (by kernel_rfl) (by kernel_rfl) (by kernel_rfl)
 have pS:=@run_callFunc_extern Tryz.prog 217 _ ReflectliteValue.set Tryz.func217 (by kernel_rfl) (by kernel_rfl) (by kernel_rfl) (by kernel_rfl)
 have h6:=@run_callFunc_extern Tryz.prog 138 _ (fun args=>ReflectliteValue.unpack (args.getD 0 (.tuple #[]))) Tryz.func138 (by kernel_rfl) (by kernel_rfl) (by kernel_rfl) (by kernel_rfl)
 have tF:=S4
 have mA:=mD
 have aFF:=MS
 have vF:=GT
 have el:=XQ a p (w.alloc (.cells #[.pointer (some ⟨2,143,none⟩),.pointer (some a),.int .u64 150] 226)) (by rw[World.cell?_alloc_lt _ _ a hap];exact ha)
 have st:=setF p ⟨w.heap.size+1,0,none⟩ q old ((w.alloc (.cells #[.pointer (some ⟨2,143,none⟩),.pointer (some a),.int .u64 150] 226)).alloc (.cells #[.pointer (some q)] 140)) (by rw[World.cell?_alloc_at _ _ _ _ (by simp)];rfl)
  (by rw[World.cell?_alloc_lt _ _ p (by simp;omega),World.cell?_alloc_lt _ _ p N1];exact hp)
  (by rw[World.frozen?_alloc_old _ _ p (by simp;omega),World.frozen?_alloc_old _ _ p (by omega)];exact hf)
 go_enter Tryz.func141,Tryz.ntmps141
 go_wp2
 refine wp_loop_rounds 1 ?_
 rw[rounds_succ]
 go_wp2
 go_ret
 exact⟨rfl,_,((New.refl _).alloc _ _).alloc _ _,rfl⟩
set_option maxHeartbeats 4000000 in
theorem FM(n:Int)(p a:Addr)(w:World) :
  Calls Tryz.prog 141 #[.iface 57 (.int .i64 n),.iface 143 (.pointer (some p)),.agg #[.pointer (some ⟨2,143,none⟩),.pointer (some a),.int .u64 150],.iface 308 (.agg #[.pointer (some ⟨2,140,none⟩)])] w (Gl w p none):=by
 have jY:=@run_callFunc_extern Tryz.prog 215 _ ReflectliteType.typeOf Tryz.func215 (by kernel_rfl) (by kernel_rfl) (by kernel_rfl) (by kernel_rfl)
 have h35 := @run_callFunc_extern Tryz.prog 370 _ (ReflectliteType.relation "AssignableTo" ReflectliteType.assignableTo) Tryz.func370 (by kernel_rfl) (by kernel_rfl) (by kernel_rfl) (by kernel_rfl)
 have tE:=S5
 have mA:=mD
 have aEF:=MU
 have nE:=l6
 have uE:=j9
 have usE:=WI
 go_enter Tryz.func141,Tryz.ntmps141
 go_wp2
 refine wp_loop_rounds 1 ?_
 rw[rounds_succ]
 go_wp2
 go_ret
 exact⟨rfl,_,(New.refl _).alloc _ _,rfl⟩
theorem YG(t:Value)(w:World):Calls Tryz.prog 62 #[.nilIface,t] w fun e w'=>e=.returned (.bool false)∧w'=w:=by
 go_enter Tryz.func62,Tryz.ntmps62
 go_wp2
 go_ret
 exact⟨rfl,rfl⟩
end Go.Proofs.YtfkbogedodngeaaGreatDoor.Err
