/-
errors.as along a chain of faults; errors.As at the two targets.
-/
import Derived.Test.YtegofjiikhlokaaGreatDoorAsA
import Derived.Test.YtegofjiikhlokaaGreatDoorMm3
namespace Go.Proofs.YtegofjiikhlokaaGreatDoor.Err
set_option maxRecDepth 20000
open Go.RowKit Go.Extern.Stop Go.Stop Go.Extern
abbrev vA(w:World)(v:Value)(r:Option Int)(n:Nat):Prop:=Go.Dm.sJ 65 125 w v r n
theorem Dx{w:World}{r:Option Int}{n:Nat}(h:vA w .nilIface r n):False:=by cases h
theorem Un{w:World}{v:Value}{r r':Option Int}{n n':Nat}(h:vA w v r n)(h':vA w v r' n'):n=n'∧r=r':=by
 induction h generalizing r' n' with
 | hit n=>cases h';exact⟨rfl,rfl⟩
 | step b o v r n hc h ih =>
  cases h' with
  | step _ _ v' r' n' GN h' =>
   rw[hc]at GN;cases GN
   obtain⟨e1,e2⟩:=ih h'
   exact⟨by rw[e1],e2⟩
  | stop _ _ GN=>rw[hc]at GN;cases GN;exact(Dx h).elim
 | stop b o hc =>
  cases h' with
  | step _ _ v' r' n' GN h'=>rw[hc]at GN;cases GN;exact(Dx h').elim
  | stop _ _ GN=>exact⟨rfl,rfl⟩
open Classical in
noncomputable def y9(w:World)(v:Value):Nat:=if h:∃ n r,vA w v r n then h.choose else 0
theorem Ib{w:World}{v:Value}{r:Option Int}{n:Nat}(h:vA w v r n):y9 w v=n:=by
 have hx:∃ n r,vA w v r n:=⟨n,r,h⟩
 unfold y9
 rw[dif_pos hx]
 obtain⟨r',Aw⟩:=hx.choose_spec
 exact(Un Aw h).1
theorem Gu{w:World}{v:Value}{r:Option Int}{n:Nat}(h:vA w v r n):∃ t x,v=.iface t x:=by
 cases h<;>exact⟨_,_,rfl⟩
theorem tI{w:World}{a:Addr}{v:Value}(h:w.cell? a=some v):a.block<w.heap.size:=by
 rcases Nat.lt_or_ge a.block w.heap.size with h1|h1
 ·exact h1
 ·simp[World.cell?,Array.getElem?_eq_none h1]at h
def QF(w:World)(p:Addr)(r:Option Int)(e:Ending)(w':World):Prop :=
 e=.returned (.bool r.isSome)∧∃ w1,New w w1∧w'=match r with|some n=>w1.setCell p (.int .i64 n)|none=>w1
set_option maxHeartbeats 4000000 in
theorem as2E(v:Value)(r:Option Int)(n:Nat)(p a:Addr)(old:Value)(w:World)(QK:vA w v r n)(ha:w.cell? a=some (.pointer (some p)))(hp:w.cell? p=some old)(hf:w.frozen? p=false)(GO:a.block<w.heap.size)(S2:p.block<w.heap.size) :
  Calls Tryz.prog 125 #[v,.iface 122 (.pointer (some p)),.agg #[.pointer (some ⟨2,122,none⟩),.pointer (some a),.int .u64 150],.iface 229 (.agg #[.pointer (some ⟨2,65,none⟩)])] w (QF w p r):=by
 have iA:=@run_callFunc_extern Tryz.prog 170 _ ReflectliteType.typeOf Tryz.func170 (by kernel_rfl) (by kernel_rfl) (by kernel_rfl) (by kernel_rfl)
 have h35 := @run_callFunc_extern Tryz.prog 265 _ (ReflectliteType.relation "AssignableTo" ReflectliteType.assignableTo) Tryz.func265 (by kernel_rfl) (by kernel_rfl) (by kernel_rfl) (by kernel_rfl)
 have lI := @run_callFunc_extern Tryz.prog 171 _ (ReflectliteValue.method (ReflectliteValue.valueError "reflectlite.Value.Elem" 0) ReflectliteValue.elem) Tryz.func171 (by kernel_rfl) (by kernel_rfl) (by kernel_rfl) (by kernel_rfl)
 have gQ:=@run_callFunc_extern Tryz.prog 172 _ ReflectliteValue.set Tryz.func172 (by kernel_rfl) (by kernel_rfl) (by kernel_rfl) (by kernel_rfl)
 have h6:=@run_callFunc_extern Tryz.prog 122 _ (fun args=>ReflectliteValue.unpack (args.getD 0 (.tuple #[]))) Tryz.func122 (by kernel_rfl) (by kernel_rfl) (by kernel_rfl) (by kernel_rfl)
 have tE:=X7
 have tF:=X6
 have mA:=nI
 have aEE:=PT
 have aFE:=PR
 have nF:=AeH
 have uF:=AfJ
 have mU:=Tk
 have vE:=JF
 go_enter Tryz.func125,Tryz.ntmps125
 go_wp2
 go_loop [0] (fun e=>∃ n,vA w e r n) (fun e=>y9 w e)
 case atStart=>exact⟨n,QK⟩
 case round =>
  obtain⟨k,hk⟩:=hrel
  cases hk with
  | hit m =>
   have el:=w7 a p (w.alloc (.cells #[.pointer (some ⟨2,122,none⟩),.pointer (some a),.int .u64 150] 181)) (by rw[World.cell?_alloc_lt _ _ a GO];exact ha)
   have st:=setE p ⟨w.heap.size+1,0,none⟩ m old ((w.alloc (.cells #[.pointer (some ⟨2,122,none⟩),.pointer (some a),.int .u64 150] 181)).alloc (.cells #[.int .i64 m] 65)) (by rw[World.cell?_alloc_at _ _ _ _ (by simp)];rfl)
    (by rw[World.cell?_alloc_lt _ _ p (by simp;omega),World.cell?_alloc_lt _ _ p S2];exact hp)
    (by rw[World.frozen?_alloc_old _ _ p (by simp;omega),World.frozen?_alloc_old _ _ p (by omega)];exact hf)
   go_wp2
   go_ret
   exact⟨rfl,_,((New.refl _).alloc _ _).alloc _ _,rfl⟩
  | step b o v' r' k' hc qM =>
   obtain⟨t',x',rfl⟩:=Gu qM
   have rE:=Ib (.step b o _ r k' hc qM:vA w _ r (k'+1))
   have hd2:=Ib qM
   have hb:b<w.heap.size:=tI hc
   have uP:(w.alloc (.cells #[.pointer (some ⟨2,122,none⟩),.pointer (some a),.int .u64 150] 181)).cell? ⟨b,o+2,none⟩=some (.iface t' x'):=by rw[World.cell?_alloc_lt _ _ _ (by exact hb)];exact hc
   go_wp2_with (go_at_call 260;refine(JH b o _ _ uP).mono ?_;rintro e w' ⟨rfl,rfl⟩)
   go_round
   case rel=>exact⟨k',qM⟩
   case measure=>rw[rE,hd2];omega
  | stop b o hc =>
   have hb:b<w.heap.size:=tI hc
   have uP:(w.alloc (.cells #[.pointer (some ⟨2,122,none⟩),.pointer (some a),.int .u64 150] 181)).cell? ⟨b,o+2,none⟩=some .nilIface:=by rw[World.cell?_alloc_lt _ _ _ (by exact hb)];exact hc
   go_wp2_with (go_at_call 260;refine(JH b o _ _ uP).mono ?_;rintro e w' ⟨rfl,rfl⟩)
   go_ret
   exact⟨rfl,_,(New.refl _).alloc _ _,rfl⟩
theorem V7{w W:World}(hc:∀b o,b<w.heap.size→W.cell? ⟨b,o,none⟩=w.cell? ⟨b,o,none⟩){v:Value}{r:Option Int}{n:Nat}(h:vA w v r n):vA W v r n:=by
 induction h with
 | hit n=>exact .hit n
 | step b o v r n hv _ ih=>exact .step b o v r n (by rw[hc b (o+2) (tI hv)];exact hv) ih
 | stop b o hv=>exact .stop b o (by rw[hc b (o+2) (tI hv)];exact hv)
def Ie(w:World)(p:Addr)(r:Option Addr)(e:Ending)(w':World):Prop :=
 e=.returned (.bool r.isSome)∧∃ w1,New w w1∧w'=match r with|some q=>w1.setCell p (.pointer (some q))|none=>w1
set_option maxHeartbeats 4000000 in
theorem PV(q p a:Addr)(old:Value)(w:World)(ha:w.cell? a=some (.pointer (some p)))(hp:w.cell? p=some old)(hf:w.frozen? p=false)(GO:a.block<w.heap.size)(S2:p.block<w.heap.size) :
  Calls Tryz.prog 125 #[.iface 125 (.pointer (some q)),.iface 128 (.pointer (some p)),.agg #[.pointer (some ⟨2,128,none⟩),.pointer (some a),.int .u64 150],.iface 229 (.agg #[.pointer (some ⟨2,125,none⟩)])] w (Ie w p (some q)):=by
 have iA:=@run_callFunc_extern Tryz.prog 170 _ ReflectliteType.typeOf Tryz.func170 (by kernel_rfl) (by kernel_rfl) (by kernel_rfl) (by kernel_rfl)
 have h35 := @run_callFunc_extern Tryz.prog 265 _ (ReflectliteType.relation "AssignableTo" ReflectliteType.assignableTo) Tryz.func265 (by kernel_rfl) (by kernel_rfl) (by kernel_rfl) (by kernel_rfl)
 have lI := @run_callFunc_extern Tryz.prog 171 _ (ReflectliteValue.method (ReflectliteValue.valueError "reflectlite.Value.Elem" 0) ReflectliteValue.elem) Tryz.func171 (by kernel_rfl) (by kernel_rfl) (by kernel_rfl) (by kernel_rfl)
 have gQ:=@run_callFunc_extern Tryz.prog 172 _ ReflectliteValue.set Tryz.func172 (by kernel_rfl) (by kernel_rfl) (by kernel_rfl) (by kernel_rfl)
 have h6:=@run_callFunc_extern Tryz.prog 122 _ (fun args=>ReflectliteValue.unpack (args.getD 0 (.tuple #[]))) Tryz.func122 (by kernel_rfl) (by kernel_rfl) (by kernel_rfl) (by kernel_rfl)
 have tF:=X6
 have mA:=nI
 have aFF:=PQ
 have vF:=JE
 have el:=v9 a p (w.alloc (.cells #[.pointer (some ⟨2,128,none⟩),.pointer (some a),.int .u64 150] 181)) (by rw[World.cell?_alloc_lt _ _ a GO];exact ha)
 have st:=setF p ⟨w.heap.size+1,0,none⟩ q old ((w.alloc (.cells #[.pointer (some ⟨2,128,none⟩),.pointer (some a),.int .u64 150] 181)).alloc (.cells #[.pointer (some q)] 125)) (by rw[World.cell?_alloc_at _ _ _ _ (by simp)];rfl)
  (by rw[World.cell?_alloc_lt _ _ p (by simp;omega),World.cell?_alloc_lt _ _ p S2];exact hp)
  (by rw[World.frozen?_alloc_old _ _ p (by simp;omega),World.frozen?_alloc_old _ _ p (by omega)];exact hf)
 go_enter Tryz.func125,Tryz.ntmps125
 go_wp2
 refine wp_loop_rounds 1 ?_
 rw[rounds_succ]
 go_wp2
 go_ret
 exact⟨rfl,_,((New.refl _).alloc _ _).alloc _ _,rfl⟩
set_option maxHeartbeats 4000000 in
theorem HO(n:Int)(p a:Addr)(w:World) :
  Calls Tryz.prog 125 #[.iface 65 (.int .i64 n),.iface 128 (.pointer (some p)),.agg #[.pointer (some ⟨2,128,none⟩),.pointer (some a),.int .u64 150],.iface 229 (.agg #[.pointer (some ⟨2,125,none⟩)])] w (Ie w p none):=by
 have iA:=@run_callFunc_extern Tryz.prog 170 _ ReflectliteType.typeOf Tryz.func170 (by kernel_rfl) (by kernel_rfl) (by kernel_rfl) (by kernel_rfl)
 have h35 := @run_callFunc_extern Tryz.prog 265 _ (ReflectliteType.relation "AssignableTo" ReflectliteType.assignableTo) Tryz.func265 (by kernel_rfl) (by kernel_rfl) (by kernel_rfl) (by kernel_rfl)
 have tE:=X7
 have mA:=nI
 have aEF:=PS
 have nE:=AeI
 have uE:=AeG
 have usE:=ZW
 go_enter Tryz.func125,Tryz.ntmps125
 go_wp2
 refine wp_loop_rounds 1 ?_
 rw[rounds_succ]
 go_wp2
 go_ret
 exact⟨rfl,_,(New.refl _).alloc _ _,rfl⟩
theorem z9(t:Value)(w:World):Calls Tryz.prog 57 #[.nilIface,t] w fun e w'=>e=.returned (.bool false)∧w'=w:=by
 go_enter Tryz.func57,Tryz.ntmps57
 go_wp2
 go_ret
 exact⟨rfl,rfl⟩
end Go.Proofs.YtegofjiikhlokaaGreatDoor.Err
