/-
errors.as along a chain of faults; errors.As at the two targets.
-/
import Derived.Test.YtloabemenciijaaGreatDoorAsA
import Derived.Test.YtloabemenciijaaGreatDoorMm4
namespace Go.Proofs.YtloabemenciijaaGreatDoor.Err
set_option maxRecDepth 100000
open Go.RowKit Go.Extern.Stop Go.Stop Go.Extern
abbrev nG(w:World)(v:Value)(r:Option Int)(n:Nat):Prop:=Go.Dm.lM 57 157 w v r n
theorem vG{w:World}{r:Option Int}{n:Nat}(h:nG w .nilIface r n):False:=by cases h
theorem Hq{w:World}{v:Value}{r r':Option Int}{n n':Nat}(h:nG w v r n)(h':nG w v r' n'):n=n'∧r=r':=by
 induction h generalizing r' n' with
 | hit n=>cases h';exact⟨rfl,rfl⟩
 | step b o v r n hc h ih =>
  cases h' with
  | step _ _ v' r' n' P2 h' =>
   rw[hc]at P2;cases P2
   obtain⟨e1,e2⟩:=ih h'
   exact⟨by rw[e1],e2⟩
  | stop _ _ P2=>rw[hc]at P2;cases P2;exact(vG h).elim
 | stop b o hc =>
  cases h' with
  | step _ _ v' r' n' P2 h'=>rw[hc]at P2;cases P2;exact(vG h').elim
  | stop _ _ P2=>exact⟨rfl,rfl⟩
open Classical in
noncomputable def KG(w:World)(v:Value):Nat:=if h:∃ n r,nG w v r n then h.choose else 0
theorem yM{w:World}{v:Value}{r:Option Int}{n:Nat}(h:nG w v r n):KG w v=n:=by
 have hx:∃ n r,nG w v r n:=⟨n,r,h⟩
 unfold KG
 rw[dif_pos hx]
 obtain⟨r',Bv⟩:=hx.choose_spec
 exact(Hq Bv h).1
theorem xL{w:World}{v:Value}{r:Option Int}{n:Nat}(h:nG w v r n):∃ t x,v=.iface t x:=by
 cases h<;>exact⟨_,_,rfl⟩
theorem mC{w:World}{a:Addr}{v:Value}(h:w.cell? a=some v):a.block<w.heap.size:=by
 rcases Nat.lt_or_ge a.block w.heap.size with h1|h1
 ·exact h1
 ·simp[World.cell?,Array.getElem?_eq_none h1]at h
def T6(w:World)(p:Addr)(r:Option Int)(e:Ending)(w':World):Prop :=
 e=.returned (.bool r.isSome)∧∃ w1,New w w1∧w'=match r with|some n=>w1.setCell p (.int .i64 n)|none=>w1
set_option maxHeartbeats 4000000 in
theorem k7(v:Value)(r:Option Int)(n:Nat)(p a:Addr)(old:Value)(w:World)(U3:nG w v r n)(ha:w.cell? a=some (.pointer (some p)))(hp:w.cell? p=some old)(hf:w.frozen? p=false)(hap:a.block<w.heap.size)(Rn:p.block<w.heap.size) :
  Calls Tryz.prog 177 #[v,.iface 154 (.pointer (some p)),.agg #[.pointer (some ⟨2,154,none⟩),.pointer (some a),.int .u64 150],.iface 333 (.agg #[.pointer (some ⟨2,57,none⟩)])] w (T6 w p r):=by
 have h10:=@run_callFunc_extern Tryz.prog 241 _ ReflectliteType.typeOf Tryz.func241 (by kernel_rfl) (by kernel_rfl) (by kernel_rfl) (by kernel_rfl)
 have h35 := @run_callFunc_extern Tryz.prog 405 _ (ReflectliteType.relation "AssignableTo" ReflectliteType.assignableTo) Tryz.func405 (by kernel_rfl) (by kernel_rfl) (by kernel_rfl) (by kernel_rfl)
 have h11 := @run_callFunc_extern Tryz.prog 242 _ (ReflectliteValue.method (ReflectliteValue.valueError "reflectlite.Value.Elem" 0) ReflectliteValue.elem) Tryz.func242 (by kernel_rfl) (by kernel_rfl) (by kernel_rfl) (by kernel_rfl)
 have h12:=@run_callFunc_extern Tryz.prog 243 _ ReflectliteValue.set Tryz.func243 (by kernel_rfl) (by kernel_rfl) (by kernel_rfl) (by kernel_rfl)
 have h6:=@run_callFunc_extern Tryz.prog 174 _ (fun args=>ReflectliteValue.unpack (args.getD 0 (.tuple #[]))) Tryz.func174 (by kernel_rfl) (by kernel_rfl) (by kernel_rfl) (by kernel_rfl)
 have tE:=Tm
 have tF:=Tl
 have mA:=hU
 have aEE:=S4
 have aFE:=S2
 have nF:=RY
 have uF:=SF
 have mU:=Gq
 have vE:=B8
 go_enter Tryz.func177,Tryz.ntmps177
 go_wp2
 go_loop [0] (fun e=>∃ n,nG w e r n) (fun e=>KG w e)
 case atStart=>exact⟨n,U3⟩
 case round =>
  obtain⟨k,hk⟩:=hrel
  cases hk with
  | hit m =>
   have el:=KE a p (w.alloc (.cells #[.pointer (some ⟨2,154,none⟩),.pointer (some a),.int .u64 150] 267)) (by rw[World.cell?_alloc_lt _ _ a hap];exact ha)
   have st:=setE p ⟨w.heap.size+1,0,none⟩ m old ((w.alloc (.cells #[.pointer (some ⟨2,154,none⟩),.pointer (some a),.int .u64 150] 267)).alloc (.cells #[.int .i64 m] 57)) (by rw[World.cell?_alloc_at _ _ _ _ (by simp)];rfl)
    (by rw[World.cell?_alloc_lt _ _ p (by simp;omega),World.cell?_alloc_lt _ _ p Rn];exact hp)
    (by rw[World.frozen?_alloc_old _ _ p (by simp;omega),World.frozen?_alloc_old _ _ p (by omega)];exact hf)
   go_wp2
   go_ret
   exact⟨rfl,_,((New.refl _).alloc _ _).alloc _ _,rfl⟩
  | step b o v' r' k' hc kD =>
   obtain⟨t',x',rfl⟩:=xL kD
   have Rt:=yM (.step b o _ r k' hc kD:nG w _ r (k'+1))
   have P0:=yM kD
   have hb:b<w.heap.size:=mC hc
   have BO:(w.alloc (.cells #[.pointer (some ⟨2,154,none⟩),.pointer (some a),.int .u64 150] 267)).cell? ⟨b,o+2,none⟩=some (.iface t' x'):=by rw[World.cell?_alloc_lt _ _ _ (by exact hb)];exact hc
   go_wp2_with (go_at_call 398;refine(B9 b o _ _ BO).mono ?_;rintro e w' ⟨rfl,rfl⟩)
   go_round
   case rel=>exact⟨k',kD⟩
   case measure=>rw[Rt,P0];omega
  | stop b o hc =>
   have hb:b<w.heap.size:=mC hc
   have BO:(w.alloc (.cells #[.pointer (some ⟨2,154,none⟩),.pointer (some a),.int .u64 150] 267)).cell? ⟨b,o+2,none⟩=some .nilIface:=by rw[World.cell?_alloc_lt _ _ _ (by exact hb)];exact hc
   go_wp2_with (go_at_call 398;refine(B9 b o _ _ BO).mono ?_;rintro e w' ⟨rfl,rfl⟩)
   go_ret
   exact⟨rfl,_,(New.refl _).alloc _ _,rfl⟩
theorem Sv{w W:World}(hc:∀b o,b<w.heap.size→W.cell? ⟨b,o,none⟩=w.cell? ⟨b,o,none⟩){v:Value}{r:Option Int}{n:Nat}(h:nG w v r n):nG W v r n:=by
 induction h with
 | hit n=>exact .hit n
 | step b o v r n hv _ ih=>exact .step b o v r n (by rw[hc b (o+2) (mC hv)];exact hv) ih
 | stop b o hv=>exact .stop b o (by rw[hc b (o+2) (mC hv)];exact hv)
def yN(w:World)(p:Addr)(r:Option Addr)(e:Ending)(w':World):Prop :=
 e=.returned (.bool r.isSome)∧∃ w1,New w w1∧w'=match r with|some q=>w1.setCell p (.pointer (some q))|none=>w1
set_option maxHeartbeats 4000000 in
theorem S6(q p a:Addr)(old:Value)(w:World)(ha:w.cell? a=some (.pointer (some p)))(hp:w.cell? p=some old)(hf:w.frozen? p=false)(hap:a.block<w.heap.size)(Rn:p.block<w.heap.size) :
  Calls Tryz.prog 177 #[.iface 157 (.pointer (some q)),.iface 160 (.pointer (some p)),.agg #[.pointer (some ⟨2,160,none⟩),.pointer (some a),.int .u64 150],.iface 333 (.agg #[.pointer (some ⟨2,157,none⟩)])] w (yN w p (some q)):=by
 have h10:=@run_callFunc_extern Tryz.prog 241 _ ReflectliteType.typeOf Tryz.func241 (by kernel_rfl) (by kernel_rfl) (by kernel_rfl) (by kernel_rfl)
 have h35 := @run_callFunc_extern Tryz.prog 405 _ (ReflectliteType.relation "AssignableTo" ReflectliteType.assignableTo) Tryz.func405 (by kernel_rfl) (by kernel_rfl) (by kernel_rfl) (by kernel_rfl)
 have h11 := @run_callFunc_extern Tryz.prog 242 _ (ReflectliteValue.method (ReflectliteValue.valueError "reflectlite.Value.Elem" 0) ReflectliteValue.elem) Tryz.func242 (by kernel_rfl) (by kernel_rfl) (by kernel_rfl) (by kernel_rfl)
 have h12:=@run_callFunc_extern Tryz.prog 243 _ ReflectliteValue.set Tryz.func243 (by kernel_rfl) (by kernel_rfl) (by kernel_rfl) (by kernel_rfl)
 have h6:=@run_callFunc_extern Tryz.prog 174 _ (fun args=>ReflectliteValue.unpack (args.getD 0 (.tuple #[]))) Tryz.func174 (by kernel_rfl) (by kernel_rfl) (by kernel_rfl) (by kernel_rfl)
 have tF:=Tl
 have mA:=hU
 have aFF:=S1
 have vF:=B7
 have el:=KD a p (w.alloc (.cells #[.pointer (some ⟨2,160,none⟩),.pointer (some a),.int .u64 150] 267)) (by rw[World.cell?_alloc_lt _ _ a hap];exact ha)
 have st:=TS p ⟨w.heap.size+1,0,none⟩ q old ((w.alloc (.cells #[.pointer (some ⟨2,160,none⟩),.pointer (some a),.int .u64 150] 267)).alloc (.cells #[.pointer (some q)] 157)) (by rw[World.cell?_alloc_at _ _ _ _ (by simp)];rfl)
  (by rw[World.cell?_alloc_lt _ _ p (by simp;omega),World.cell?_alloc_lt _ _ p Rn];exact hp)
  (by rw[World.frozen?_alloc_old _ _ p (by simp;omega),World.frozen?_alloc_old _ _ p (by omega)];exact hf)
 go_enter Tryz.func177,Tryz.ntmps177
 go_wp2
 refine wp_loop_rounds 1 ?_
 rw[rounds_succ]
 go_wp2
 go_ret
 exact⟨rfl,_,((New.refl _).alloc _ _).alloc _ _,rfl⟩
set_option maxHeartbeats 4000000 in
theorem Zj(n:Int)(p a:Addr)(w:World) :
  Calls Tryz.prog 177 #[.iface 57 (.int .i64 n),.iface 160 (.pointer (some p)),.agg #[.pointer (some ⟨2,160,none⟩),.pointer (some a),.int .u64 150],.iface 333 (.agg #[.pointer (some ⟨2,157,none⟩)])] w (yN w p none):=by
 have h10:=@run_callFunc_extern Tryz.prog 241 _ ReflectliteType.typeOf Tryz.func241 (by kernel_rfl) (by kernel_rfl) (by kernel_rfl) (by kernel_rfl)
 have h35 := @run_callFunc_extern Tryz.prog 405 _ (ReflectliteType.relation "AssignableTo" ReflectliteType.assignableTo) Tryz.func405 (by kernel_rfl) (by kernel_rfl) (by kernel_rfl) (by kernel_rfl)
 have tE:=Tm
 have mA:=hU
 have aEF:=S3
 have nE:=RZ
 have uE:=RX
 have usE:=IT
 go_enter Tryz.func177,Tryz.ntmps177
 go_wp2
 refine wp_loop_rounds 1 ?_
 rw[rounds_succ]
 go_wp2
 go_ret
 exact⟨rfl,_,(New.refl _).alloc _ _,rfl⟩
theorem KP(t:Value)(w:World):Calls Tryz.prog 75 #[.nilIface,t] w fun e w'=>e=.returned (.bool false)∧w'=w:=by
 go_enter Tryz.func75,Tryz.ntmps75
 go_wp2
 go_ret
 exact⟨rfl,rfl⟩
end Go.Proofs.YtloabemenciijaaGreatDoor.Err
