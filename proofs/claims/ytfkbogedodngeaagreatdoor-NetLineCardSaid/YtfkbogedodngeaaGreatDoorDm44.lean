/-
Part 44 of "Dm": the library's sorting at ints and at pairs of ints, from its contracts.
-/
import Derived.Test.YtfkbogedodngeaaGreatDoorMm4
import Derived.Test.YtfkbogedodngeaaGreatDoorMm5
import Derived.Shelf.Sort.Plain
import Derived.Shelf.Slices.In.SortNone
import Derived.Shelf.SlSortCmp.NoneTotal
namespace Go.Dm
open Go.Shelf
theorem perm_sorted{α:Type}{r:α→α→Prop}(anti:∀a b,r a b→r b a→a=b):∀{l k:List α},l.Perm k→l.Pairwise r→k.Pairwise r→l=k
 | [],k,h,_,_=>(List.perm_nil.1 h.symm).symm
 | x::l,[],h,_,_=>by cases List.perm_nil.1 h
 | x::l,y::k,h,hl,hk=>by
  obtain⟨h1,h2⟩:=List.pairwise_cons.1 hl
  obtain⟨g1,g2⟩:=List.pairwise_cons.1 hk
  have e:x=y:=by
   rcases List.mem_cons.1 (h.mem_iff.1 (List.mem_cons_self ..))with e|hx
   ·exact e
   ·rcases List.mem_cons.1 (h.mem_iff.2 (List.mem_cons_self ..))with e|hy
    ·exact e.symm
    ·exact anti x y (h1 y hy) (g1 x hx)
  subst e
  rw[perm_sorted anti (List.Perm.cons_inv h) h2 g2]
theorem insI_perm'{α:Type}(lt:α→α→Bool)(x:α)(l:List α):(Em lt x l).Perm (x::l):=by
 induction l with
 | nil=>exact .refl _
 | cons y r ih =>
  simp only[Em]
  split
  ·exact(List.Perm.cons y ih).trans (.swap _ _ _)
  ·exact .refl _
theorem isortI_perm'{α:Type}(lt:α→α→Bool)(l:List α):(fZ lt l).Perm l:=by
 induction l with
 | nil=>exact .refl _
 | cons x r ih=>exact(insI_perm' lt x _).trans (.cons x ih)
structure Ord{α:Type}(lt:α→α→Bool):Prop where
 asymm:∀a b,lt a b=true→lt b a=false
 trans:∀a b c,lt b a=false→lt c b=false→lt c a=false
 anti:∀a b,lt a b=false→lt b a=false→a=b
theorem isortI_pw{α:Type}{lt:α→α→Bool}(O:Ord lt)(l:List α):(fZ lt l).Pairwise fun a b=>lt b a=false:=by
 have ins:∀(x:α) (l:List α),(l.Pairwise fun a b=>lt b a=false)→(Em lt x l).Pairwise fun a b=>lt b a=false:=by
  intro x l
  induction l with
  | nil=>intro _;exact List.pairwise_singleton _ _
  | cons y r ih =>
   intro h
   obtain⟨h1,h2⟩:=List.pairwise_cons.1 h
   simp only[Em]
   split
   ·rename_i aY
    refine List.pairwise_cons.2 ⟨fun z hz=>?_,ih h2⟩
    rcases List.mem_cons.1 ((insI_perm' lt x r).mem_iff.1 hz)with rfl|hz
    ·exact O.asymm _ _ aY
    ·exact h1 z hz
   ·rename_i aY
    have qH:lt y x=false:=by simpa using aY
    refine List.pairwise_cons.2 ⟨fun z hz=>?_,h⟩
    rcases List.mem_cons.1 hz with rfl|hz
    ·exact qH
    ·exact O.trans _ _ _ qH (h1 z hz)
 induction l with
 | nil=>exact List.Pairwise.nil
 | cons x r ih=>exact ins x _ ih
theorem isortI_merge{α:Type}{lt:α→α→Bool}(O:Ord lt)(l:List α):l.mergeSort (fun a b=>!lt b a)=fZ lt l:=by
 refine perm_sorted (r:=fun a b=>lt b a=false) (fun a b h1 h2=>O.anti a b h2 h1) ((List.mergeSort_perm l _).trans (isortI_perm' lt l).symm) ?_ (isortI_pw O l)
 have:=List.pairwise_mergeSort (le:=fun a b=>!lt b a) (fun a b c h1 h2=>by simp at h1 h2 ⊢;exact O.trans a b c h1 h2) (fun a b=>by
  cases h:lt b a
  ·simp
  ·simp[O.asymm b a h]) l
 exact this.imp fun h=>by simpa using h
theorem ordZ:Ord ltZ:=⟨fun a b h=>by simp[ltZ]at *;omega,fun a b c h1 h2=>by simp[ltZ]at *;omega,fun a b h1 h2=>by simp[ltZ]at *;omega⟩
theorem ordP:Ord ltP:=by
 refine⟨fun a b h=>?_,fun a b c h1 h2=>?_,fun a b h1 h2=>?_⟩
 ·simp only[ltP,decide_eq_true_eq,decide_eq_false_iff_not]at *;omega
 ·simp only[ltP,decide_eq_false_iff_not]at *;omega
 ·simp only[ltP,decide_eq_false_iff_not]at *
  exact Prod.ext (by omega) (by omega)
theorem putRow_map{α:Type}[Inhabited α](enc:α→Value)(w:World)(b co:Nat)(l:List α):Sort.putRow enc w b co l.toArray=Sort.putRow _root_.id w b co (l.map enc).toArray:=by
 unfold Sort.putRow
 congr 1
 funext c
 unfold Sort.putCells
 apply Array.ext_getElem?
 intro j
 simp only[Array.getElem?_mapIdx,List.size_toArray,List.length_map]
 cases hj:c[j]? with
 | none=>rfl
 | some x =>
  simp only[Option.map_some]
  by_cases h:co≤j∧j<co+l.length
  ·rw[if_pos h,if_pos h]
   have:j-co<l.length:=by omega
   simp[this]
  ·rw[if_neg h,if_neg h]
theorem flatMap_encI(l:List Int):l.flatMap CO=l.map (Value.int .i64):=by
 induction l with
 | nil=>rfl
 | cons x r ih=>simp[List.flatMap_cons,CO,ih]
theorem sortsI{P:Program}{ρ:Ren}(L:Go.Proofs.Lays.n189 P ρ)(he:∀args w,(callFunc (ρ.f 189) args).run P w=.ok (.enter (ρ.f 189) args) w):Ja P (ρ.f 189) 1 [] CO ltZ where
 enter:=he
 none a cap w:=Go.Proofs.Any.slices_Sort_int_none L a cap w
 row b co cap zs w hz hb _ hc:=by
  have hH:Sort.Holds (Value.int .i64) w b co zs.toArray:=fun j hj=>by
   have uO:j<zs.length:=by simpa using hj
   obtain⟨h1,h2⟩:=hc j uO 0 (by decide)
   simp only[Nat.mul_one,Nat.add_zero]at h1 h2
   exact⟨by rw[h1];simp[CO,uO],h2⟩
  refine(Go.Proofs.Any.slices_Sort_int L b co cap zs w hH hb hz).mono fun e w' ⟨h1,n,os,h2⟩=>⟨h1,n,os,?_⟩
  rw[h2,flatMap_encI,←putRow_map,←isortI_merge ordZ]
  congr 4
  funext x y
  by_cases h:x≤y
  ·have:¬y<x:=by omega
   simp[ltZ,h,this]
  ·have:y<x:=by omega
   simp[ltZ,h,this]
def cmpP(x y:Int×Int):Int:=if x.1<y.1 then -1 else if y.1<x.1 then 1 else if x.2<y.2 then -1 else if y.2<x.2 then 1 else 0
theorem ltOf_cmpP(x y:Int×Int):Go.Proofs.ltOf cmpP x y=ltP x y:=by
 unfold Go.Proofs.ltOf ltP cmpP
 congr 1
 apply propext
 constructor
 ·intro h
  split at h
  ·exact .inl ‹_›
  ·split at h
   ·omega
   ·split at h
    ·exact .inr ⟨by omega,‹_›⟩
    ·split at h<;>omega
 ·intro h
  rcases h with h|⟨h1,h2⟩
  ·rw[if_pos h];omega
  ·rw[if_neg (by omega),if_neg (by omega),if_pos h2];omega
theorem flatK_eq(l:List (Int×Int)):Sort.flatK jK 2 l.toArray=(l.flatMap jK).toArray:=by
 have hl:=vR (enc:=jK) (k:=2) (fun _=>rfl) l
 apply Array.ext
 ·simp[hl]
 ·intro t h1 h2
  have ht:t<l.length*2:=by simpa using h1
  have hq:t / 2<l.length:=by omega
  have hm:t % 2<2:=by omega
  have hg:=qV (enc:=jK) (k:=2) (fun _=>rfl) l (t / 2) hq (t % 2) hm
  have hd:t / 2*2+t % 2=t:=by omega
  rw[hd]at hg
  have e1:(Sort.flatK jK 2 l.toArray)[t]=(jK l[t / 2])[t % 2]!:=by
   have:=Sort.get_flatK jK 2 l.toArray t (by simpa using ht)
   rw[getElem!_pos _ t h1]at this
   rw[this]
   congr 2
   simp[hq]
  rw[e1]
  have h3:t<(l.flatMap jK).length:=by omega
  rw[List.getElem?_eq_getElem h3]at hg
  have h4:t % 2<(jK l[t / 2]).length:=hm
  rw[List.getElem?_eq_getElem h4]at hg
  have e2:((jK l[t / 2])[t % 2]!)=(jK l[t / 2])[t % 2]'h4:=getElem!_pos (jK l[t / 2]) (t % 2) h4
  rw[e2]
  simpa using(Option.some.inj hg).symm
theorem sortsP{P:Program}{ρ:Ren}(L:Go.Proofs.SlLaysF0.n6 P ρ)(he:∀args w,(callFunc (ρ.f 6) args).run P w=.ok (.enter (ρ.f 6) args) w)(aE:∀w,(isAgg (ρ.t 24)).run P w=.ok true w)(zE:∀w,(Go.sizeOf (ρ.t 24)).run P w=.ok 2 w){g:Nat}(eg:∀args w,(callFunc g args).run P w=.ok (.enter g args) w)
  (hcmp:∀(x y:Int×Int) (W:World),Ky W→Calls P g #[.agg (jK x).toArray,.agg (jK y).toArray] W fun e w'=>e=.returned (.int .i64 (cmpP x y))∧∃ q os',w'=Sort.grow (W.drewN q) os'):Ja P (ρ.f 6) 2 [.func (.func g) #[] #[]] jK ltP where
 enter:=he
 none a cap w:=Go.Proofs.AnyF.slices_SortFunc_none L a cap _ w
 row b co cap zs w hz hb hL hc:=by
  have hsw:(fun x y=>Go.Proofs.ltOf cmpP x y)=ltP:=by funext x y;exact ltOf_cmpP x y
  have hsw':Go.Proofs.ltOf cmpP=ltP:=hsw
  have hO:Sort.SWO (Go.Proofs.ltOf cmpP):=by
   rw[hsw']
   exact⟨fun x=>by simp[ltP],fun x y z h1 h2=>by simp only[ltP,decide_eq_true_eq]at *;omega,fun x y z h1 h2=>ordP.trans z y x h2 h1⟩
  have hH:Sort.HoldsK jK 2 w b co zs.toArray:=fun j hj=>by
   rw[flatK_eq]at hj ⊢
   have hl:=vR (enc:=jK) (k:=2) (fun _=>rfl) zs
   have uO:j<zs.length*2:=by simpa[hl]using hj
   have hq:j / 2<zs.length:=by omega
   obtain⟨h1,h2⟩:=hc (j / 2) hq (j % 2) (by omega)
   have hd:co+j / 2*2+j % 2=co+j:=by omega
   rw[hd]at h1 h2
   refine⟨?_,h2⟩
   rw[h1,←qV (enc:=jK) (k:=2) (fun _=>rfl) zs (j / 2) hq (j % 2) (by omega)]
   have Vi:j / 2*2+j % 2=j:=by omega
   rw[Vi]
   have h3:j<(zs.flatMap jK).length:=by omega
   have h4:j<(zs.flatMap jK).toArray.size:=by simpa using h3
   rw[getElem!_pos (zs.flatMap jK).toArray j h4,List.getElem?_eq_getElem h3]
   simp
  have hlay:Go.Proofs.CmpLays P g #[] jK 2 cmpP b co zs.toArray.size w:=fun m os dk _ x y=>by
   have RN:Ky (Go.Proofs.sortWorldK jK 2 w b co m dk os):=fun b' v hv=>by
    obtain⟨g1,g2,g3⟩:=hL b' v hv
    refine⟨by simp[Go.Proofs.sortWorldK,Sort.putRowK,Sort.putRow,Sort.mapBlock,Sort.ahead];omega,?_⟩
    rw[←g3]
    have:(Go.Proofs.sortWorldK jK 2 w b co m dk os).heap[b']?=w.heap[b']?:=by
     simp only[Go.Proofs.sortWorldK,Sort.grow,Sort.putRowK,Sort.putRow,Sort.mapBlock,Sort.ahead]
     rw[Array.getElem?_append_left (by simpa using g2),Array.getElem?_modify,if_neg (fun e=>g1 e.symm)]
    exact World.cell?_of_block this
   exact hcmp x y _ RN
  have hT:∀x y,Go.Proofs.ltOf cmpP x y=false→Go.Proofs.ltOf cmpP y x=false→x=y:=by
   rw[hsw'];exact ordP.anti
  have hcon:=Go.Proofs.AnyQ.slices_SortFunc_total L 2 aE zE jK (fun _=>rfl) (fun x v hv=>by simp[jK]at hv;rcases hv with rfl|rfl<;>rfl) cmpP hO g #[] b co cap zs.toArray w eg hlay hH hb (by simpa using hz) hT
  rw[List.size_toArray]at hcon
  refine hcon.mono fun e w' ⟨h1,n,os,h2⟩=>⟨h1,n,os,?_⟩
  rw[h2,hsw',isortI_merge ordP]
  unfold Go.Proofs.sortWorldK Sort.putRowK
  rw[flatK_eq]
theorem grown_call {P : Program} {D : bU} (G : La P D) {f : Nat} {fn : Func} {body : Code} (hf : P.funcs[f]? = some fn) (hb : fn.body = some body) (hn : fn.name ≠ "runtime.NumGoroutine") {ds : List DV} {vs : List Value} {h' : aA} {r : Int} (hr : fc D f ds jA = some (.int .i64 r, h')) (w : World) (hg : Ky w) (hv : VRs (Ig w) ds vs) :
  Calls P f vs.toArray w fun e w'=>e=.returned (.int .i64 r)∧∃ q os',w'=Sort.grow (w.drewN q) os':=by
 obtain⟨n,he⟩:=Be.1 hr
 have hc:=Io G n f ds jA _ h' (Ig w) vs he (m6 w hg) hv
 have hen:=jD hf hb hn vs.toArray w
 rcases hc with⟨v,w',gB,_⟩|⟨f',vals',gB,hcalls⟩
 ·have:(callFunc f vs.toArray).run P w=.ok (.value v) w':=gB
  rw[hen]at this
  cases this
 ·have h2:(callFunc f vs.toArray).run P w=.ok (.enter f' vals') w:=gB
  rw[hen]at h2
  cases h2
  refine hcalls.mono fun e w' hp=>?_
  obtain⟨v,e1,ρ',k1,k2,k3⟩:=hp
  refine⟨by rw[e1,k3.int_inv],w'.drawn-w.drawn,w'.heap.extract w.heap.size w'.heap.size,?_⟩
  have q:=k2.quiet
  have dX:w.heap.size≤w'.heap.size:=k2.size
  have hheap:w'.heap=w.heap++w'.heap.extract w.heap.size w'.heap.size:=by
   apply Array.ext_getElem?
   intro j
   by_cases hj:j<w.heap.size
   ·rw[Array.getElem?_append_left hj]
    exact k2.frame j hj fun h=>h
   ·rw[Array.getElem?_append_right (by omega),Array.getElem?_extract]
    by_cases EB:j<w'.heap.size
    ·have:j-w.heap.size<w'.heap.size-w.heap.size:=by omega
     simp[this]
     congr 1
     omega
    ·have:¬j-w.heap.size<w'.heap.size-w.heap.size:=by omega
     simp[this]
     omega
  have h1:=q.os
  have h3:=q.out
  have h4:=q.tape
  have h5:=q.drawn
  simp only[Ig,Ctx.next]at h1 h3 h4 h5
  cases w with
  | mk heap tape drawn os output =>
   cases w' with
   | mk heap' tape' drawn' os' output' =>
    simp only at h1 h3 h4 h5 hheap
    subst h1;subst h3;subst h4
    simp only[Sort.grow,World.drewN]
    rw[←hheap]
    congr 1
    omega
theorem vrs_pairs(c:Ctx)(x y:Int×Int):VRs c [.agg [.int .i64 x.1,.int .i64 x.2],.agg [.int .i64 y.1,.int .i64 y.2]] [.agg (jK x).toArray,.agg (jK y).toArray]:=by
 have hp:∀p:Int×Int,VR c (.agg [.int .i64 p.1,.int .i64 p.2]) (.agg (jK p).toArray):=fun p=>.agg (vs:=jK p) rfl (fun i hi=>by
  rcases i with _|_|i
  ·rfl
  ·rfl
  ·simp[jK]at hi;omega) (fun i h1 h2=>by
  rcases i with _|_|i
  ·exact .int _ _
  ·exact .int _ _
  ·simp[jK]at h2;omega)
 refine⟨rfl,fun i h1 h2=>?_⟩
 rcases i with _|_|i
 ·exact hp x
 ·exact hp y
 ·simp at h1;omega
end Go.Dm
