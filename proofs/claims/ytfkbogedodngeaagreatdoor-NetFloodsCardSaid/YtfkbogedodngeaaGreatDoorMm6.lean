/- A part of the proof. -/
import Derived.Test.YtfkbogedodngeaaGreatDoorMm5
import Derived.Test.YtfkbogedodngeaaGreatDoorMm4
import Derived.ChangeArms
import Derived.ChangeSame
set_option linter.all false
namespace Go.Dm
open Go.RowKit
theorem DI {P : Program} {D : bX} (G : Ks P D) {f : Nat} {fn : Func} {body : Code} (hf : P.funcs[f]? = some fn) (hb : fn.body = some body) (hn : fn.name ≠ "runtime.NumGoroutine") {ds : List DV} {vs : List Value} {h' : aA} (hr : fc D f ds iK = some (.bool true, h')) (w : World) (hg : Kq w) (hv : VRs (Ql w) ds vs) :
  Calls P f vs.toArray w fun e w'=>e=.returned (.bool true)∧LF w w'∧∀b,b<w.heap.size→w'.heap[b]?=w.heap[b]?:=by
 obtain⟨n,he⟩:=Fa.1 hr
 have hc:=Ie G n f ds iK _ h' (Ql w) vs he (d4 w hg) hv
 have hen:=jB hf hb hn vs.toArray w
 rcases hc with⟨v,w',gR,_⟩|⟨f',vals',gR,hcalls⟩
 ·have:(callFunc f vs.toArray).run P w=.ok (.value v) w':=gR
  rw[hen]at this
  cases this
 ·have h2:(callFunc f vs.toArray).run P w=.ok (.enter f' vals') w:=gR
  rw[hen]at h2
  cases h2
  refine hcalls.mono fun e w' hp=>?_
  obtain⟨v,e1,ρ',k1,k2,k3⟩:=hp
  exact⟨by rw[e1,k3.bool_inv],Vf k2,fun b hb=>k2.frame b hb fun h=>h⟩
structure El(c:Ctx)(w:World):Prop where
 w:c.w=w
 O:∀b,¬c.O b
 X:∀b,¬c.X b
theorem El.zero(w:World):El (Ql w) w:=⟨rfl,fun _ h=>h,fun _ h=>h⟩
theorem El.still{c:Ctx}{w:World}(h:El c w):El c.still w:=⟨h.w,h.O,h.X⟩
theorem Q4{α:Type}{p:Nat→α→Prop}:∀n,(∀i,i<n→∃ a,p i a)→∃ l:List α,l.length=n∧∀i (hi:i<l.length),p i l[i]
 | 0,_=>⟨[],rfl,fun i hi=>absurd hi (Nat.not_lt_zero _)⟩
 | n+1,h=>by
  obtain⟨l,hl,hp⟩:=Q4 n fun i hi=>h i (Nat.lt_succ_of_lt hi)
  obtain⟨a,ha⟩:=h n (Nat.lt_succ_self n)
  refine⟨l++[a],by simp[hl],fun i hi=>?_⟩
  by_cases aZ:i<l.length
  ·rw[List.getElem_append_left aZ];exact hp i aZ
  ·have:i=n:=by simp at hi;omega
   subst this
   rw[List.getElem_append_right (by omega)]
   simpa[hl]using ha
theorem Wy(b o n:Nat):(⟨b,o,none⟩:Addr).add n=⟨b,o+n,none⟩:=by
 unfold Addr.add
 split
 ·rename_i h;subst h;rfl
 ·rfl
theorem MV{w:World}{a:Addr}{v:Value}(h:w.cell? a=some v):a.spot=none∧a.block<w.heap.size:=by
 unfold World.cell? at h
 split at h
 ·rename_i hb
  refine⟨?_,?_⟩
  ·split at h
   ·cases h
   ·rename_i hs;cases hs2:a.spot with|none=>rfl|some x=>simp[hs2]at hs
  ·by_cases aZ:a.block<w.heap.size
   ·exact aZ
   ·rw[Array.getElem?_eq_none (by omega)]at hb;cases hb
 ·cases h
def jZ(c:Ctx)(ds:List DV)(cs:List Value):Prop:=ds.length=cs.length∧∀i (h1:i<ds.length) (h2:i<cs.length),VR c ds[i] cs[i]∧(cs[i]).oneCell'=true
theorem jZ.append{c:Ctx}{ds ds':List DV}{cs cs':List Value}(h:jZ c ds cs)(h':jZ c ds' cs'):jZ c (ds++ds') (cs++cs'):=by
 refine⟨by rw[List.length_append,List.length_append,h.1,h'.1],fun i h1 h2=>?_⟩
 by_cases aZ:i<ds.length
 ·rw[List.getElem_append_left aZ,List.getElem_append_left (by rw[←h.1];exact aZ)]
  exact h.2 i aZ _
 ·rw[List.getElem_append_right (by omega),List.getElem_append_right (by rw[←h.1];omega)]
  have:i-cs.length=i-ds.length:=by rw[h.1]
  simp only[this]
  exact h'.2 (i-ds.length) (by rw[List.length_append]at h1;omega) _
theorem jZ.one{c:Ctx}{d:DV}{v:Value}(h:VR c d v)(h1:v.oneCell'=true):jZ c [d] [v]:=by
 refine⟨rfl,fun i h2 h3=>?_⟩
 have:i=0:=by simp at h2;omega
 subst this
 exact⟨h,h1⟩
theorem jZ.nil{c:Ctx}:jZ c [] []:=⟨rfl,fun i h=>absurd h (Nat.not_lt_zero _)⟩
section
variable {H:Type} {enc:TypeId×Value→H} {P:Program} {w:World} {sp:Nat→Bool} {tD:Bool}
theorem Ge{t:TypeId}{cs:List Value}{fuel:Nat}{x:DataW H×List MemPlace}(ht:P.underlying t=some (.int .i64))(h:DataW.trod enc P w 0 sp tD fuel t cs=some x)(c:Ctx):∃ n:Int,jZ c [.int .i64 n] cs:=by
 obtain⟨n,rfl,_,_⟩:=DataW.trod_int ht h
 exact⟨n,.one (.int _ _) rfl⟩
theorem Zp{α:Type}{t e:TypeId}{cs:List Value}{fuel sz:Nat}{x:DataW H×List MemPlace}(ht:P.underlying t=some (.slice e))(hz:P.cellsOf e=sz)(VM:0<sz)(h:DataW.trod enc P w 0 sp tD fuel t cs=some x){c:Ctx}(hc:El c w)
  (en:α→DV) (good:α→Prop) (nG:∀ecs y n,DataW.trod enc P w 0 sp tD n e ecs=some y→∃ a,good a∧jZ c.still (aF sz (en a)) ecs) :
  ∃ l:List α,(∀a∈l,good a)∧l.length≤maxLen∧jZ c [eL false sz en l] cs:=by
 rcases DataW.trod_slice ht h with⟨rfl,_⟩|⟨a,len,cap,elems,rest,n,_,rfl,_,hb,hl,gS,hel1,hel2,_⟩
 ·exact⟨[],fun a h=>(by cases h),Nat.zero_le _,.one (.isl0 _ _) rfl⟩
 ·rw[hz]at hel2
  have DY:∀i,i<len→∃ p:α×List Value,good p.1∧w.cells? 0 (a.add (i*sz)) sz=some p.2∧jZ c.still (aF sz (en p.1)) p.2:=fun i hi=>by
   have h1:=hel2 i hi
   rw[List.getElem?_eq_getElem (by omega)]at h1
   simp only[Option.bind_eq_some_iff]at h1
   obtain⟨ecs,h2,h3⟩:=h1
   obtain⟨b,h4,h5⟩:=nG _ _ _ h3
   exact⟨(b,ecs),h4,h2,h5⟩
  obtain⟨l,Mc,hlp⟩:=Q4 len DY
  refine⟨l.map (·.1),?_,by rw[List.length_map,Mc];omega,.one ?_ rfl⟩
  ·intro b hb
   obtain⟨p,hp,rfl⟩:=List.mem_map.1 hb
   obtain⟨i,hi,rfl⟩:=List.mem_iff_getElem.1 hp
   exact(hlp i hi).1
  ·by_cases h0:len=0
   ·have:l=[]:=List.eq_nil_of_length_eq_zero (by omega)
    subst this
    subst h0
    exact .isl0 _ _
   ·have cT:l≠[]:=fun e=>h0 (by rw[←Mc,e];rfl)
    have hne':l.map (·.1)≠[]:=by simpa using cT
    have xJ:∀i (hi:i<l.length) j,j<sz→w.cell? ((a.add (i*sz)).add j)=(l[i]).2[j]?∧(l[i]).2.length=sz:=fun i hi j hj=>by
     obtain⟨_,k2,k3⟩:=World.cells?_some (hlp i hi).2.1
     exact⟨k3 j hj,k2⟩
    have tB:0<l.length:=by omega
    have h00:=xJ 0 tB 0 VM
    have ha0:(a.add (0*sz)).add 0=a:=by simp[Addr.add]
    rw[ha0,List.getElem?_eq_getElem (by rw[h00.2];exact VM)]at h00
    obtain⟨hs,hbk⟩:=MV h00.1
    obtain⟨b,o,s⟩:=a
    simp only at hs hbk
    subst hs
    rw[RY false sz en hne']
    have wN:∀i (hi:i<l.length) j (hj:j<sz),w.cell? ⟨b,o+i*sz+j,none⟩=some ((l[i]).2[j]'(by rw[(xJ i hi j hj).2];exact hj)):=fun i hi j hj=>by
     have k1:=(xJ i hi j hj).1
     rw[Wy,Wy]at k1
     exact k1.trans (List.getElem?_eq_getElem _)
    refine .isl (fun i j=>(w.cell? ⟨b,o+i*sz+j,none⟩).getD undef) (by simp[Mc]) hl (by rw[hc.w];exact hbk) (hc.O b) (fun _=>hc.X b) ?_ ?_ ?_
    ·intro i hi
     simp only[List.length_map]at hi
     simp only[List.getElem_map]
     have:=(hlp i hi).2.2.1
     rw[this]
     exact(xJ i hi 0 VM).2
    ·intro i j hi hj
     simp only[List.length_map]at hi
     rw[hc.w,wN i hi j hj]
     have h5:=(hlp i hi).2.2
     have h6:=(xJ i hi j hj).2
     exact⟨rfl,(h5.2 j (by rw[h5.1,h6];exact hj) (by rw[h6];exact hj)).2⟩
    ·intro i hi j hj
     simp only[List.length_map]at hi
     simp only[List.getElem_map]at hj ⊢
     have h5:=(hlp i hi).2.2
     have h6:=(xJ i hi 0 VM).2
     have sL:j<sz:=by rw[h5.1,h6]at hj;exact hj
     have h7:=(h5.2 j hj (by rw[h6];exact sL)).1
     have h8:(w.cell? ⟨b,o+i*sz+j,none⟩).getD undef=(l[i]).2[j]'(by rw[h6];exact sL):=by rw[wN i hi j sL];rfl
     simp only[h8]
     exact h7
theorem NB{w':World}(hg:∀b,b<w.heap.size→w'.heap[b]?=w.heap[b]?){p:MemPlace}(hp:p.block<w.heap.size):w.sameAt w' p:=by
 cases p with
 | cell b off =>
  show w'.cell? ⟨b,off,none⟩=w.cell? ⟨b,off,none⟩
  unfold World.cell?
  rw[hg b hp]
 | map b=>exact hg b hp
theorem zB{w':World}(hg:∀b,b<w.heap.size→w'.heap[b]?=w.heap[b]?)(sp':Nat→Bool):∀{ts:List TypeId} {vs:List Value} {ds:List (DataW H)} {ps:List MemPlace},DataW.TrodAll enc P w 0 sp' tD ts vs ds ps→(∀p∈ps,p.block<w.heap.size)→DataW.TrodAll enc P w' 0 sp' tD ts vs ds ps
 | [],[],[],_,h,_=>h
 | t::ts,v::vs,d::ds,ps,h,hl=>by
  obtain⟨p,q,⟨fuel,h1⟩,h2,rfl⟩:=h
  exact⟨p,q,⟨fuel,DataW.trod_carry _ _ _ _ h1 fun x hx=>NB hg (hl x (List.mem_append.2 (.inl hx)))⟩,zB hg sp' h2 fun x hx=>hl x (List.mem_append.2 (.inr hx)),rfl⟩
end
end Go.Dm
