/-
errors.as along a chain of faults; errors.As at the two targets.
-/
import Derived.Test.YtfkbogedodngeaaGreatDoorAsA
import Derived.Test.YtfkbogedodngeaaGreatDoorMm4
set_option maxRecDepth 100000
namespace Go.Proofs.YtfkbogedodngeaaGreatDoor.Err
open Go.RowKit Go.Extern.Stop Go.Stop Go.Extern
abbrev sJ(w:World)(v:Value)(r:Option Int)(n:Nat):Prop:=Go.Dm.pT 57 140 w v r n
theorem At{w:World}{r:Option Int}{n:Nat}(h:sJ w .nilIface r n):False:=by cases h
theorem Qr{w:World}{v:Value}{r r':Option Int}{n n':Nat}(h:sJ w v r n)(h':sJ w v r' n'):n=n'∧r=r':=by
 induction h generalizing r' n' with
 | hit n=>cases h';exact⟨rfl,rfl⟩
 | step b o v r n hc h ih =>
  cases h' with
  | step _ _ v' r' n' JL h' =>
   rw[hc]at JL;cases JL
   obtain⟨e1,e2⟩:=ih h'
   exact⟨by rw[e1],e2⟩
  | stop _ _ JL=>rw[hc]at JL;cases JL;exact(At h).elim
 | stop b o hc =>
  cases h' with
  | step _ _ v' r' n' JL h'=>rw[hc]at JL;cases JL;exact(At h').elim
  | stop _ _ JL=>exact⟨rfl,rfl⟩
open Classical in
noncomputable def WS(w:World)(v:Value):Nat:=if h:∃ n r,sJ w v r n then h.choose else 0
theorem Fb{w:World}{v:Value}{r:Option Int}{n:Nat}(h:sJ w v r n):WS w v=n:=by
 have hx:∃ n r,sJ w v r n:=⟨n,r,h⟩
 unfold WS
 rw[dif_pos hx]
 obtain⟨r',Iv⟩:=hx.choose_spec
 exact(Qr Iv h).1
theorem Dw{w:World}{v:Value}{r:Option Int}{n:Nat}(h:sJ w v r n):∃ t x,v=.iface t x:=by
 cases h<;>exact⟨_,_,rfl⟩
theorem qS{w:World}{a:Addr}{v:Value}(h:w.cell? a=some v):a.block<w.heap.size:=by
 rcases Nat.lt_or_ge a.block w.heap.size with h1|h1
 ·exact h1
 ·simp[World.cell?,Array.getElem?_eq_none h1]at h
def LH(w:World)(p:Addr)(r:Option Int)(e:Ending)(w':World):Prop :=
 e=.returned (.bool r.isSome)∧∃ w1,New w w1∧w'=match r with|some n=>w1.setCell p (.int .i64 n)|none=>w1
set_option maxHeartbeats 4000000 in
theorem as2E(v:Value)(r:Option Int)(n:Nat)(p a:Addr)(old:Value)(w:World)(LR:sJ w v r n)(ha:w.cell? a=some (.pointer (some p)))(hp:w.cell? p=some old)(hf:w.frozen? p=false)(PR:a.block<w.heap.size)(Pq:p.block<w.heap.size) :
  Calls Tryz.prog 141 #[v,.iface 137 (.pointer (some p)),.agg #[.pointer (some ⟨2,137,none⟩),.pointer (some a),.int .u64 150],.iface 308 (.agg #[.pointer (some ⟨2,57,none⟩)])] w (LH w p r):=by
 have vC:=@run_callFunc_extern Tryz.prog 215 _ ReflectliteType.typeOf Tryz.func215 (by kernel_rfl) (by kernel_rfl) (by kernel_rfl) (by kernel_rfl)
 have h35 := @run_callFunc_extern Tryz.prog 370 _ (ReflectliteType.relation "AssignableTo" ReflectliteType.assignableTo) Tryz.func370 (by kernel_rfl) (by kernel_rfl) (by kernel_rfl) (by kernel_rfl)
 have Iy := @run_callFunc_extern Tryz.prog 216 _ (ReflectliteValue.method (ReflectliteValue.valueError "reflectlite.Value.Elem" 0) ReflectliteValue.elem) Tryz.func216 (by kernel_rfl) (by kernel_rfl) (by kernel_rfl) (by kernel_rfl)
 have RX:=@run_callFunc_extern Tryz.prog 217 _ ReflectliteValue.set Tryz.func217 (by kernel_rfl) (by kernel_rfl) (by kernel_rfl) (by kernel_rfl)
 have h6:=@run_callFunc_extern Tryz.prog 138 _ (fun args=>ReflectliteValue.unpack (args.getD 0 (.tuple #[]))) Tryz.func138 (by kernel_rfl) (by kernel_rfl) (by kernel_rfl) (by kernel_rfl)
 have tE:=M6
 have tF:=M5
 have mA:=kS
 have aEE:=KU
 have aFE:=KS
 have nF:=k6
 have uF:=m8
 have mU:=Pk
 have vE:=EI
 go_enter Tryz.func141,Tryz.ntmps141
 go_wp2
 go_loop [0] (fun e=>∃ n,sJ w e r n) (fun e=>WS w e)
 case atStart=>exact⟨n,LR⟩
 case round =>
  obtain⟨k,hk⟩:=hrel
  cases hk with
  | hit m =>
   have el:=WM a p (w.alloc (.cells #[.pointer (some ⟨2,137,none⟩),.pointer (some a),.int .u64 150] 226)) (by rw[World.cell?_alloc_lt _ _ a PR];exact ha)
   have st:=setE p ⟨w.heap.size+1,0,none⟩ m old ((w.alloc (.cells #[.pointer (some ⟨2,137,none⟩),.pointer (some a),.int .u64 150] 226)).alloc (.cells #[.int .i64 m] 57)) (by rw[World.cell?_alloc_at _ _ _ _ (by simp)];rfl)
    (by rw[World.cell?_alloc_lt _ _ p (by simp;omega),World.cell?_alloc_lt _ _ p Pq];exact hp)
    (by rw[World.frozen?_alloc_old _ _ p (by simp;omega),World.frozen?_alloc_old _ _ p (by omega)];exact hf)
   go_wp2
   go_ret
   exact⟨rfl,_,((New.refl _).alloc _ _).alloc _ _,rfl⟩
  | step b o v' r' k' hc nY =>
   obtain⟨t',x',rfl⟩:=Dw nY
   have Mh:=Fb (.step b o _ r k' hc nY:sJ w _ r (k'+1))
   have JJ:=Fb nY
   have hb:b<w.heap.size:=qS hc
   have BO:(w.alloc (.cells #[.pointer (some ⟨2,137,none⟩),.pointer (some a),.int .u64 150] 226)).cell? ⟨b,o+2,none⟩=some (.iface t' x'):=by rw[World.cell?_alloc_lt _ _ _ (by exact hb)];exact hc
   go_wp2_with (go_at_call 361;refine(EJ b o _ _ BO).mono ?_;rintro e w' ⟨rfl,rfl⟩)
   go_round
   case rel=>exact⟨k',nY⟩
   case measure=>rw[Mh,JJ];omega
  | stop b o hc =>
   have hb:b<w.heap.size:=qS hc
   have BO:(w.alloc (.cells #[.pointer (some ⟨2,137,none⟩),.pointer (some a),.int .u64 150] 226)).cell? ⟨b,o+2,none⟩=some .nilIface:=by rw[World.cell?_alloc_lt _ _ _ (by exact hb)];exact hc
   go_wp2_with (go_at_call 361;refine(EJ b o _ _ BO).mono ?_;rintro e w' ⟨rfl,rfl⟩)
   go_ret
   exact⟨rfl,_,(New.refl _).alloc _ _,rfl⟩
theorem J5{w W:World}(hc:∀b o,b<w.heap.size→W.cell? ⟨b,o,none⟩=w.cell? ⟨b,o,none⟩){v:Value}{r:Option Int}{n:Nat}(h:sJ w v r n):sJ W v r n:=by
 induction h with
 | hit n=>exact .hit n
 | step b o v r n hv _ ih=>exact .step b o v r n (by rw[hc b (o+2) (qS hv)];exact hv) ih
 | stop b o hv=>exact .stop b o (by rw[hc b (o+2) (qS hv)];exact hv)
def Fc(w:World)(p:Addr)(r:Option Addr)(e:Ending)(w':World):Prop :=
 e=.returned (.bool r.isSome)∧∃ w1,New w w1∧w'=match r with|some q=>w1.setCell p (.pointer (some q))|none=>w1
set_option maxHeartbeats 4000000 in
theorem KW(q p a:Addr)(old:Value)(w:World)(ha:w.cell? a=some (.pointer (some p)))(hp:w.cell? p=some old)(hf:w.frozen? p=false)(PR:a.block<w.heap.size)(Pq:p.block<w.heap.size) :
  Calls Tryz.prog 141 #[.iface 140 (.pointer (some q)),.iface 143 (.pointer (some p)),.agg #[.pointer (some ⟨2,143,none⟩),.pointer (some a),.int .u64 150],.iface 308 (.agg #[.pointer (some ⟨2,140,none⟩)])] w (Fc w p (some q)):=by
 have vC:=@run_callFunc_extern Tryz.prog 215 _ ReflectliteType.typeOf Tryz.func215 (by kernel_rfl) (by kernel_rfl) (by kernel_rfl) (by kernel_rfl)
 have h35 := @run_callFunc_extern Tryz.prog 370 _ (ReflectliteType.relation "AssignableTo" ReflectliteType.assignableTo) Tryz.func370 (by kernel_rfl) (by kernel_rfl) (by kernel_rfl) (by kernel_rfl)
 have Iy := @run_callFunc_extern Tryz.prog 216 _ (ReflectliteValue.method (ReflectliteValue.valueError "reflectlite.Value.Elem" 0) ReflectliteValue.elem) Tryz.func216 (by kernel_rfl) (by kernel_rfl) (by kernel_rfl) (by kernel_rfl)
 have RX:=@run_callFunc_extern Tryz.prog 217 _ ReflectliteValue.set Tryz.func217 (by kernel_rfl) (by kernel_rfl) (by kernel_rfl) (by kernel_rfl)
 have h6:=@run_callFunc_extern Tryz.prog 138 _ (fun args=>ReflectliteValue.unpack (args.getD 0 (.tuple #[]))) Tryz.func138 (by kernel_rfl) (by kernel_rfl) (by kernel_rfl) (by kernel_rfl)
 have tF:=M5
 have mA:=kS
 have aFF:=KR
 have vF:=EH
 have el:=WL a p (w.alloc (.cells #[.pointer (some ⟨2,143,none⟩),.pointer (some a),.int .u64 150] 226)) (by rw[World.cell?_alloc_lt _ _ a PR];exact ha)
 have st:=z9 p ⟨w.heap.size+1,0,none⟩ q old ((w.alloc (.cells #[.pointer (some ⟨2,143,none⟩),.pointer (some a),.int .u64 150] 226)).alloc (.cells #[.pointer (some q)] 140)) (by rw[World.cell?_alloc_at _ _ _ _ (by simp)];rfl)
  (by rw[World.cell?_alloc_lt _ _ p (by simp;omega),World.cell?_alloc_lt _ _ p Pq];exact hp)
  (by rw[World.frozen?_alloc_old _ _ p (by simp;omega),World.frozen?_alloc_old _ _ p (by omega)];exact hf)
 go_enter Tryz.func141,Tryz.ntmps141
 go_wp2
 refine wp_loop_rounds 1 ?_
 rw[rounds_succ]
 go_wp2
 go_ret
 exact⟨rfl,_,((New.refl _).alloc _ _).alloc _ _,rfl⟩
set_option maxHeartbeats 4000000 in
theorem CT(n:Int)(p a:Addr)(w:World) :
  Calls Tryz.prog 141 #[.iface 57 (.int .i64 n),.iface 143 (.pointer (some p)),.agg #[.pointer (some ⟨2,143,none⟩),.pointer (some a),.int .u64 150],.iface 308 (.agg #[.pointer (some ⟨2,140,none⟩)])] w (Fc w p none):=by
 have vC:=@run_callFunc_extern Tryz.prog 215 _ ReflectliteType.typeOf Tryz.func215 (by kernel_rfl) (by kernel_rfl) (by kernel_rfl) (by kernel_rfl)
 have h35 := @run_callFunc_extern Tryz.prog 370 _ (ReflectliteType.relation "AssignableTo" ReflectliteType.assignableTo) Tryz.func370 (by kernel_rfl) (by kernel_rfl) (by kernel_rfl) (by kernel_rfl)
 have tE:=M6
 have mA:=kS
 have aEF:=KT
 have nE:=k7
 have uE:=j9
 have usE:=UY
 go_enter Tryz.func141,Tryz.ntmps141
 go_wp2
 refine wp_loop_rounds 1 ?_
 rw[rounds_succ]
 go_wp2
 go_ret
 exact⟨rfl,_,(New.refl _).alloc _ _,rfl⟩
theorem XB(t:Value)(w:World):Calls Tryz.prog 62 #[.nilIface,t] w fun e w'=>e=.returned (.bool false)∧w'=w:=by
 go_enter Tryz.func62,Tryz.ntmps62
 go_wp2
 go_ret
 exact⟨rfl,rfl⟩
end Go.Proofs.YtfkbogedodngeaaGreatDoor.Err
