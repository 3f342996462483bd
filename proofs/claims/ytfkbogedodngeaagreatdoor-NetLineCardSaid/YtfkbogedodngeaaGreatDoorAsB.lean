/-
errors.as along a chain of faults; errors.As at the two targets.
-/
import Derived.Test.YtfkbogedodngeaaGreatDoorAsA
import Derived.Test.YtfkbogedodngeaaGreatDoorMm4
set_option maxRecDepth 100000
namespace Go.Proofs.YtfkbogedodngeaaGreatDoor.Err
open Go.RowKit Go.Extern.Stop Go.Stop Go.Extern
abbrev sS(w:World)(v:Value)(r:Option Int)(n:Nat):Prop:=Go.Dm.qF 57 140 w v r n
theorem Bn{w:World}{r:Option Int}{n:Nat}(h:sS w .nilIface r n):False:=by cases h
theorem Qw{w:World}{v:Value}{r r':Option Int}{n n':Nat}(h:sS w v r n)(h':sS w v r' n'):n=n'∧r=r':=by
 induction h generalizing r' n' with
 | hit n=>cases h';exact⟨rfl,rfl⟩
 | step b o v r n hc h ih =>
  cases h' with
  | step _ _ v' r' n' JK h' =>
   rw[hc]at JK;cases JK
   obtain⟨e1,e2⟩:=ih h'
   exact⟨by rw[e1],e2⟩
  | stop _ _ JK=>rw[hc]at JK;cases JK;exact(Bn h).elim
 | stop b o hc =>
  cases h' with
  | step _ _ v' r' n' JK h'=>rw[hc]at JK;cases JK;exact(Bn h').elim
  | stop _ _ JK=>exact⟨rfl,rfl⟩
open Classical in
noncomputable def XH(w:World)(v:Value):Nat:=if h:∃ n r,sS w v r n then h.choose else 0
theorem Fj{w:World}{v:Value}{r:Option Int}{n:Nat}(h:sS w v r n):XH w v=n:=by
 have hx:∃ n r,sS w v r n:=⟨n,r,h⟩
 unfold XH
 rw[dif_pos hx]
 obtain⟨r',Jg⟩:=hx.choose_spec
 exact(Qw Jg h).1
theorem Eg{w:World}{v:Value}{r:Option Int}{n:Nat}(h:sS w v r n):∃ t x,v=.iface t x:=by
 cases h<;>exact⟨_,_,rfl⟩
theorem qZ{w:World}{a:Addr}{v:Value}(h:w.cell? a=some v):a.block<w.heap.size:=by
 rcases Nat.lt_or_ge a.block w.heap.size with h1|h1
 ·exact h1
 ·simp[World.cell?,Array.getElem?_eq_none h1]at h
def LH(w:World)(p:Addr)(r:Option Int)(e:Ending)(w':World):Prop :=
 e=.returned (.bool r.isSome)∧∃ w1,New w w1∧w'=match r with|some n=>w1.setCell p (.int .i64 n)|none=>w1
set_option maxHeartbeats 4000000 in
theorem as2E(v:Value)(r:Option Int)(n:Nat)(p a:Addr)(old:Value)(w:World)(LW:sS w v r n)(ha:w.cell? a=some (.pointer (some p)))(hp:w.cell? p=some old)(hf:w.frozen? p=false)(PR:a.block<w.heap.size)(F8:p.block<w.heap.size) :
  Calls Tryz.prog 141 #[v,.iface 137 (.pointer (some p)),.agg #[.pointer (some ⟨2,137,none⟩),.pointer (some a),.int .u64 150],.iface 308 (.agg #[.pointer (some ⟨2,57,none⟩)])] w (LH w p r):=by
 have sU:=@run_callFunc_extern Tryz.prog 215 _ ReflectliteType.typeOf Tryz.func215 (by kernel_rfl) (by kernel_rfl) (by kernel_rfl) (by kernel_rfl)
 have h35 := @run_callFunc_extern Tryz.prog 370 _ (ReflectliteType.relation "AssignableTo" ReflectliteType.assignableTo) Tryz.func370 (by kernel_rfl) (by kernel_rfl) (by kernel_rfl) (by kernel_rfl)
 have Ji := @run_callFunc_extern Tryz.prog 216 _ (ReflectliteValue.method (ReflectliteValue.valueError "reflectlite.Value.Elem" 0) ReflectliteValue.elem) Tryz.func216 (by kernel_rfl) (by kernel_rfl) (by kernel_rfl) (by kernel_rfl)
 have RY:=@run_callFunc_extern Tryz.prog 217 _ ReflectliteValue.set Tryz.func217 (by kernel_rfl) (by kernel_rfl) (by kernel_rfl) (by kernel_rfl)
 have h6:=@run_callFunc_extern Tryz.prog 138 _ (fun args=>ReflectliteValue.unpack (args.getD 0 (.tuple #[]))) Tryz.func138 (by kernel_rfl) (by kernel_rfl) (by kernel_rfl) (by kernel_rfl)
 have tE:=N7
 have tF:=N6
 have mA:=kH
 have aEE:=KS
 have aFE:=KQ
 have nF:=u9
 have uF:=z6
 have mU:=Pp
 have vE:=EM
 go_enter Tryz.func141,Tryz.ntmps141
 go_wp2
 go_loop [0] (fun e=>∃ n,sS w e r n) (fun e=>XH w e)
 case atStart=>exact⟨n,LW⟩
 case round =>
  obtain⟨k,hk⟩:=hrel
  cases hk with
  | hit m =>
   have el:=XA a p (w.alloc (.cells #[.pointer (some ⟨2,137,none⟩),.pointer (some a),.int .u64 150] 226)) (by rw[World.cell?_alloc_lt _ _ a PR];exact ha)
   have st:=setE p ⟨w.heap.size+1,0,none⟩ m old ((w.alloc (.cells #[.pointer (some ⟨2,137,none⟩),.pointer (some a),.int .u64 150] 226)).alloc (.cells #[.int .i64 m] 57)) (by rw[World.cell?_alloc_at _ _ _ _ (by simp)];rfl)
    (by rw[World.cell?_alloc_lt _ _ p (by simp;omega),World.cell?_alloc_lt _ _ p F8];exact hp)
    (by rw[World.frozen?_alloc_old _ _ p (by simp;omega),World.frozen?_alloc_old _ _ p (by omega)];exact hf)
   go_wp2
   go_ret
   exact⟨rfl,_,((New.refl _).alloc _ _).alloc _ _,rfl⟩
  | step b o v' r' k' hc oN =>
   obtain⟨t',x',rfl⟩:=Eg oN
   have G7:=Fj (.step b o _ r k' hc oN:sS w _ r (k'+1))
   have Vi:=Fj oN
   have hb:b<w.heap.size:=qZ hc
   have BY:(w.alloc (.cells #[.pointer (some ⟨2,137,none⟩),.pointer (some a),.int .u64 150] 226)).cell? ⟨b,o+2,none⟩=some (.iface t' x'):=by rw[World.cell?_alloc_lt _ _ _ (by exact hb)];exact hc
   go_wp2_with (go_at_call 361;refine(EO b o _ _ BY).mono ?_;rintro e w' ⟨rfl,rfl⟩)
   go_round
   case rel=>exact⟨k',oN⟩
   case measure=>rw[G7,Vi];omega
  | stop b o hc =>
   have hb:b<w.heap.size:=qZ hc
   have BY:(w.alloc (.cells #[.pointer (some ⟨2,137,none⟩),.pointer (some a),.int .u64 150] 226)).cell? ⟨b,o+2,none⟩=some .nilIface:=by rw[World.cell?_alloc_lt _ _ _ (by exact hb)];exact hc
   go_wp2_with (go_at_call 361;refine(EO b o _ _ BY).mono ?_;rintro e w' ⟨rfl,rfl⟩)
   go_ret
   exact⟨rfl,_,(New.refl _).alloc _ _,rfl⟩
theorem L7{w W:World}(hc:∀b o,b<w.heap.size→W.cell? ⟨b,o,none⟩=w.cell? ⟨b,o,none⟩){v:Value}{r:Option Int}{n:Nat}(h:sS w v r n):sS W v r n:=by
 induction h with
 | hit n=>exact .hit n
 | step b o v r n hv _ ih=>exact .step b o v r n (by rw[hc b (o+2) (qZ hv)];exact hv) ih
 | stop b o hv=>exact .stop b o (by rw[hc b (o+2) (qZ hv)];exact hv)
def Fk(w:World)(p:Addr)(r:Option Addr)(e:Ending)(w':World):Prop :=
 e=.returned (.bool r.isSome)∧∃ w1,New w w1∧w'=match r with|some q=>w1.setCell p (.pointer (some q))|none=>w1
set_option maxHeartbeats 4000000 in
theorem KU(q p a:Addr)(old:Value)(w:World)(ha:w.cell? a=some (.pointer (some p)))(hp:w.cell? p=some old)(hf:w.frozen? p=false)(PR:a.block<w.heap.size)(F8:p.block<w.heap.size) :
  Calls Tryz.prog 141 #[.iface 140 (.pointer (some q)),.iface 143 (.pointer (some p)),.agg #[.pointer (some ⟨2,143,none⟩),.pointer (some a),.int .u64 150],.iface 308 (.agg #[.pointer (some ⟨2,140,none⟩)])] w (Fk w p (some q)):=by
 have sU:=@run_callFunc_extern Tryz.prog 215 _ ReflectliteType.typeOf Tryz.func215 (by kernel_rfl) (by kernel_rfl) (by kernel_rfl) (by kernel_rfl)
 have h35 := @run_callFunc_extern Tryz.prog 370 _ (ReflectliteType.relation "AssignableTo" ReflectliteType.assignableTo) Tryz.func370 (by kernel_rfl) (by kernel_rfl) (by kernel_rfl) (by kernel_rfl)
 have Ji := @run_callFunc_extern Tryz.prog 216 _ (ReflectliteValue.method (ReflectliteValue.valueError "reflectlite.Value.Elem" 0) ReflectliteValue.elem) Tryz.func216 (by kernel_rfl) (by kernel_rfl) (by kernel_rfl) (by kernel_rfl)
 have RY:=@run_callFunc_extern Tryz.prog 217 _ ReflectliteValue.set Tryz.func217 (by kernel_rfl) (by kernel_rfl) (by kernel_rfl) (by kernel_rfl)
 have h6:=@run_callFunc_extern Tryz.prog 138 _ (fun args=>ReflectliteValue.unpack (args.getD 0 (.tuple #[]))) Tryz.func138 (by kernel_rfl) (by kernel_rfl) (by kernel_rfl) (by kernel_rfl)
 have tF:=N6
 have mA:=kH
 have aFF:=KP
 have vF:=EL
 have el:=WZ a p (w.alloc (.cells #[.pointer (some ⟨2,143,none⟩),.pointer (some a),.int .u64 150] 226)) (by rw[World.cell?_alloc_lt _ _ a PR];exact ha)
 have st:=setF p ⟨w.heap.size+1,0,none⟩ q old ((w.alloc (.cells #[.pointer (some ⟨2,143,none⟩),.pointer (some a),.int .u64 150] 226)).alloc (.cells #[.pointer (some q)] 140)) (by rw[World.cell?_alloc_at _ _ _ _ (by simp)];rfl)
  (by rw[World.cell?_alloc_lt _ _ p (by simp;omega),World.cell?_alloc_lt _ _ p F8];exact hp)
  (by rw[World.frozen?_alloc_old _ _ p (by simp;omega),World.frozen?_alloc_old _ _ p (by omega)];exact hf)
 go_enter Tryz.func141,Tryz.ntmps141
 go_wp2
 refine wp_loop_rounds 1 ?_
 rw[rounds_succ]
 go_wp2
 go_ret
 exact⟨rfl,_,((New.refl _).alloc _ _).alloc _ _,rfl⟩
set_option maxHeartbeats 4000000 in
theorem DC(n:Int)(p a:Addr)(w:World) :
  Calls Tryz.prog 141 #[.iface 57 (.int .i64 n),.iface 143 (.pointer (some p)),.agg #[.pointer (some ⟨2,143,none⟩),.pointer (some a),.int .u64 150],.iface 308 (.agg #[.pointer (some ⟨2,140,none⟩)])] w (Fk w p none):=by
 have sU:=@run_callFunc_extern Tryz.prog 215 _ ReflectliteType.typeOf Tryz.func215 (by kernel_rfl) (by kernel_rfl) (by kernel_rfl) (by kernel_rfl)
 have h35 := @run_callFunc_extern Tryz.prog 370 _ (ReflectliteType.relation "AssignableTo" ReflectliteType.assignableTo) Tryz.func370 (by kernel_rfl) (by kernel_rfl) (by kernel_rfl) (by kernel_rfl)
 have tE:=N7
 have mA:=kH
 have aEF:=KR
 have nE:=v6
 have uE:=u7
 have usE:=VG
 go_enter Tryz.func141,Tryz.ntmps141
 go_wp2
 refine wp_loop_rounds 1 ?_
 rw[rounds_succ]
 go_wp2
 go_ret
 exact⟨rfl,_,(New.refl _).alloc _ _,rfl⟩
theorem XQ(t:Value)(w:World):Calls Tryz.prog 62 #[.nilIface,t] w fun e w'=>e=.returned (.bool false)∧w'=w:=by
 go_enter Tryz.func62,Tryz.ntmps62
 go_wp2
 go_ret
 exact⟨rfl,rfl⟩
end Go.Proofs.YtfkbogedodngeaaGreatDoor.Err
