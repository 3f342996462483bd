/-
errors.as along a chain of faults; errors.As at the two targets.
-/
import Derived.Test.YtegofjiikhlokaaGreatDoorAsA
import Derived.Test.YtegofjiikhlokaaGreatDoorMm3
namespace Go.Proofs.YtegofjiikhlokaaGreatDoor.Err
set_option maxRecDepth 20000
open Go.RowKit Go.Extern.Stop Go.Stop Go.Extern
abbrev uV(w:World)(v:Value)(r:Option Int)(n:Nat):Prop:=Go.Dm.sI 65 125 w v r n
theorem Dp{w:World}{r:Option Int}{n:Nat}(h:uV w .nilIface r n):False:=by cases h
theorem To{w:World}{v:Value}{r r':Option Int}{n n':Nat}(h:uV w v r n)(h':uV w v r' n'):n=n'∧r=r':=by
 induction h generalizing r' n' with
 | hit n=>cases h';exact⟨rfl,rfl⟩
 | step b o v r n hc h ih =>
  cases h' with
  | step _ _ v' r' n' FL h' =>
   rw[hc]at FL;cases FL
   obtain⟨e1,e2⟩:=ih h'
   exact⟨by rw[e1],e2⟩
  | stop _ _ FL=>rw[hc]at FL;cases FL;exact(Dp h).elim
 | stop b o hc =>
  cases h' with
  | step _ _ v' r' n' FL h'=>rw[hc]at FL;cases FL;exact(Dp h').elim
  | stop _ _ FL=>exact⟨rfl,rfl⟩
open Classical in
noncomputable def j9(w:World)(v:Value):Nat:=if h:∃ n r,uV w v r n then h.choose else 0
theorem Hw{w:World}{v:Value}{r:Option Int}{n:Nat}(h:uV w v r n):j9 w v=n:=by
 have hx:∃ n r,uV w v r n:=⟨n,r,h⟩
 unfold j9
 rw[dif_pos hx]
 obtain⟨r',Aq⟩:=hx.choose_spec
 exact(To Aq h).1
theorem Gn{w:World}{v:Value}{r:Option Int}{n:Nat}(h:uV w v r n):∃ t x,v=.iface t x:=by
 cases h<;>exact⟨_,_,rfl⟩
theorem tG{w:World}{a:Addr}{v:Value}(h:w.cell? a=some v):a.block<w.heap.size:=by
 rcases Nat.lt_or_ge a.block w.heap.size with h1|h1
 ·exact h1
 ·simp[World.cell?,Array.getElem?_eq_none h1]at h
def PD(w:World)(p:Addr)(r:Option Int)(e:Ending)(w':World):Prop :=
 e=.returned (.bool r.isSome)∧∃ w1,New w w1∧w'=match r with|some n=>w1.setCell p (.int .i64 n)|none=>w1
set_option maxHeartbeats 4000000 in
theorem as2E(v:Value)(r:Option Int)(n:Nat)(p a:Addr)(old:Value)(w:World)(PI:uV w v r n)(ha:w.cell? a=some (.pointer (some p)))(hp:w.cell? p=some old)(hf:w.frozen? p=false)(FM:a.block<w.heap.size)(O8:p.block<w.heap.size) :
  Calls Tryz.prog 125 #[v,.iface 122 (.pointer (some p)),.agg #[.pointer (some ⟨2,122,none⟩),.pointer (some a),.int .u64 150],.iface 229 (.agg #[.pointer (some ⟨2,65,none⟩)])] w (PD w p r):=by
 have hY:=@run_callFunc_extern Tryz.prog 170 _ ReflectliteType.typeOf Tryz.func170 (by kernel_rfl) (by kernel_rfl) (by kernel_rfl) (by kernel_rfl)
 have h35 := @run_callFunc_extern Tryz.prog 265 _ (ReflectliteType.relation "AssignableTo" ReflectliteType.assignableTo) Tryz.func265 (by kernel_rfl) (by kernel_rfl) (by kernel_rfl) (by kernel_rfl)
 have lG := @run_callFunc_extern Tryz.prog 171 _ (ReflectliteValue.method (ReflectliteValue.valueError "reflectlite.Value.Elem" 0) ReflectliteValue.elem) Tryz.func171 (by kernel_rfl) (by kernel_rfl) (by kernel_rfl) (by kernel_rfl)
 have gE:=@run_callFunc_extern Tryz.prog 172 _ ReflectliteValue.set Tryz.func172 (by kernel_rfl) (by kernel_rfl) (by kernel_rfl) (by kernel_rfl)
 have h6:=@run_callFunc_extern Tryz.prog 122 _ (fun args=>ReflectliteValue.unpack (args.getD 0 (.tuple #[]))) Tryz.func122 (by kernel_rfl) (by kernel_rfl) (by kernel_rfl) (by kernel_rfl)
 have tE:=U1
 have tF:=U0
 have mA:=nD
 have aEE:=OT
 have aFE:=OR
 have nF:=AcC
 have uF:=AdE
 have mU:=Sk
 have vE:=HY
 go_enter Tryz.func125,Tryz.ntmps125
 go_wp2
 go_loop [0] (fun e=>∃ n,uV w e r n) (fun e=>j9 w e)
 case atStart=>exact⟨n,PI⟩
 case round =>
  obtain⟨k,hk⟩:=hrel
  cases hk with
  | hit m =>
   have el:=d7 a p (w.alloc (.cells #[.pointer (some ⟨2,122,none⟩),.pointer (some a),.int .u64 150] 181)) (by rw[World.cell?_alloc_lt _ _ a FM];exact ha)
   have st:=setE p ⟨w.heap.size+1,0,none⟩ m old ((w.alloc (.cells #[.pointer (some ⟨2,122,none⟩),.pointer (some a),.int .u64 150] 181)).alloc (.cells #[.int .i64 m] 65)) (by rw[World.cell?_alloc_at _ _ _ _ (by simp)];rfl)
    (by rw[World.cell?_alloc_lt _ _ p (by simp;omega),World.cell?_alloc_lt _ _ p O8];exact hp)
    (by rw[World.frozen?_alloc_old _ _ p (by simp;omega),World.frozen?_alloc_old _ _ p (by omega)];exact hf)
   go_wp2
   go_ret
   exact⟨rfl,_,((New.refl _).alloc _ _).alloc _ _,rfl⟩
  | step b o v' r' k' hc qJ =>
   obtain⟨t',x',rfl⟩:=Gn qJ
   have lD:=Hw (.step b o _ r k' hc qJ:uV w _ r (k'+1))
   have hd2:=Hw qJ
   have hb:b<w.heap.size:=tG hc
   have uL:(w.alloc (.cells #[.pointer (some ⟨2,122,none⟩),.pointer (some a),.int .u64 150] 181)).cell? ⟨b,o+2,none⟩=some (.iface t' x'):=by rw[World.cell?_alloc_lt _ _ _ (by exact hb)];exact hc
   go_wp2_with (go_at_call 260;refine(IA b o _ _ uL).mono ?_;rintro e w' ⟨rfl,rfl⟩)
   go_round
   case rel=>exact⟨k',qJ⟩
   case measure=>rw[lD,hd2];omega
  | stop b o hc =>
   have hb:b<w.heap.size:=tG hc
   have uL:(w.alloc (.cells #[.pointer (some ⟨2,122,none⟩),.pointer (some a),.int .u64 150] 181)).cell? ⟨b,o+2,none⟩=some .nilIface:=by rw[World.cell?_alloc_lt _ _ _ (by exact hb)];exact hc
   go_wp2_with (go_at_call 260;refine(IA b o _ _ uL).mono ?_;rintro e w' ⟨rfl,rfl⟩)
   go_ret
   exact⟨rfl,_,(New.refl _).alloc _ _,rfl⟩
theorem S2{w W:World}(hc:∀b o,b<w.heap.size→W.cell? ⟨b,o,none⟩=w.cell? ⟨b,o,none⟩){v:Value}{r:Option Int}{n:Nat}(h:uV w v r n):uV W v r n:=by
 induction h with
 | hit n=>exact .hit n
 | step b o v r n hv _ ih=>exact .step b o v r n (by rw[hc b (o+2) (tG hv)];exact hv) ih
 | stop b o hv=>exact .stop b o (by rw[hc b (o+2) (tG hv)];exact hv)
def Hy(w:World)(p:Addr)(r:Option Addr)(e:Ending)(w':World):Prop :=
 e=.returned (.bool r.isSome)∧∃ w1,New w w1∧w'=match r with|some q=>w1.setCell p (.pointer (some q))|none=>w1
set_option maxHeartbeats 4000000 in
theorem OV(q p a:Addr)(old:Value)(w:World)(ha:w.cell? a=some (.pointer (some p)))(hp:w.cell? p=some old)(hf:w.frozen? p=false)(FM:a.block<w.heap.size)(O8:p.block<w.heap.size) :
  Calls Tryz.prog 125 #[.iface 125 (.pointer (some q)),.iface 128 (.pointer (some p)),.agg #[.pointer (some ⟨2,128,none⟩),.pointer (some a),.int .u64 150],.iface 229 (.agg #[.pointer (some ⟨2,125,none⟩)])] w (Hy w p (some q)):=by
 have hY:=@run_callFunc_extern Tryz.prog 170 _ ReflectliteType.typeOf Tryz.func170 (by kernel_rfl) (by kernel_rfl) (by kernel_rfl) (by kernel_rfl)
 have h35 := @run_callFunc_extern Tryz.prog 265 _ (ReflectliteType.relation "AssignableTo" ReflectliteType.assignableTo) Tryz.func265 (by kernel_rfl) (by kernel_rfl) (by kernel_rfl) (by kernel_rfl)
 have lG := @run_callFunc_extern Tryz.prog 171 _ (ReflectliteValue.method (ReflectliteValue.valueError "reflectlite.Value.Elem" 0) ReflectliteValue.elem) Tryz.func171 (by kernel_rfl) (by kernel_rfl) (by kernel_rfl) (by kernel_rfl)
 have gE:=@run_callFunc_extern Tryz.prog 172 _ ReflectliteValue.set Tryz.func172 (by kernel_rfl) (by kernel_rfl) (by kernel_rfl) (by kernel_rfl)
 have h6:=@run_callFunc_extern Tryz.prog 122 _ (fun args=>ReflectliteValue.unpack (args.getD 0 (.tuple #[]))) Tryz.func122 (by kernel_rfl) (by kernel_rfl) (by kernel_rfl) (by kernel_rfl)
 have tF:=U0
 have mA:=nD
 have aFF:=OQ
 have vF:=HX
 have el:=d6 a p (w.alloc (.cells #[.pointer (some ⟨2,128,none⟩),.pointer (some a),.int .u64 150] 181)) (by rw[World.cell?_alloc_lt _ _ a FM];exact ha)
 have st:=setF p ⟨w.heap.size+1,0,none⟩ q old ((w.alloc (.cells #[.pointer (some ⟨2,128,none⟩),.pointer (some a),.int .u64 150] 181)).alloc (.cells #[.pointer (some q)] 125)) (by rw[World.cell?_alloc_at _ _ _ _ (by simp)];rfl)
  (by rw[World.cell?_alloc_lt _ _ p (by simp;omega),World.cell?_alloc_lt _ _ p O8];exact hp)
  (by rw[World.frozen?_alloc_old _ _ p (by simp;omega),World.frozen?_alloc_old _ _ p (by omega)];exact hf)
 go_enter Tryz.func125,Tryz.ntmps125
 go_wp2
 refine wp_loop_rounds 1 ?_
 rw[rounds_succ]
 go_wp2
 go_ret
 exact⟨rfl,_,((New.refl _).alloc _ _).alloc _ _,rfl⟩
set_option maxHeartbeats 4000000 in
theorem GM(n:Int)(p a:Addr)(w:World) :
  Calls Tryz.prog 125 #[.iface 65 (.int .i64 n),.iface 128 (.pointer (some p)),.agg #[.pointer (some ⟨2,128,none⟩),.pointer (some a),.int .u64 150],.iface 229 (.agg #[.pointer (some ⟨2,125,none⟩)])] w (Hy w p none):=by
 have hY:=@run_callFunc_extern Tryz.prog 170 _ ReflectliteType.typeOf Tryz.func170 (by kernel_rfl) (by kernel_rfl) (by kernel_rfl) (by kernel_rfl)
 have h35 := @run_callFunc_extern Tryz.prog 265 _ (ReflectliteType.relation "AssignableTo" ReflectliteType.assignableTo) Tryz.func265 (by kernel_rfl) (by kernel_rfl) (by kernel_rfl) (by kernel_rfl)
 have tE:=U1
 have mA:=nD
 have aEF:=OS
 have nE:=AcD
 have uE:=AcB
 have usE:=YV
 go_enter Tryz.func125,Tryz.ntmps125
 go_wp2
 refine wp_loop_rounds 1 ?_
 rw[rounds_succ]
 go_wp2
 go_ret
 exact⟨rfl,_,(New.refl _).alloc _ _,rfl⟩
theorem m7(t:Value)(w:World):Calls Tryz.prog 57 #[.nilIface,t] w fun e w'=>e=.returned (.bool false)∧w'=w:=by
 go_enter Tryz.func57,Tryz.ntmps57
 go_wp2
 go_ret
 exact⟨rfl,rfl⟩
end Go.Proofs.YtegofjiikhlokaaGreatDoor.Err
