/-
What functions of the library compute, part 1: searches, comparisons.
-/
import Derived.Test.YtfnhanajiibciaaGreatTcE
import Derived.Test.YtfnhanajiibciaaGreatMm4
set_option linter.all false
namespace Go.Dm.Tc
def idxOf:Option Nat→Int
 | some i=>i
 | none=>-1
theorem l146 (t:Bool) (xs:List Entry) (g:Nat) (cap:List DV) (p:Entry→Bool) (hg:∀x∈xs,∀h,fc D g ([eEntry x]++cap) h=some (.bool (p x),h)) (hl:xs.length≤1000000) :
  ∀(rest:List Entry) (i:Nat) (f:FEnv) (h:Heap),xs.drop i=rest→f 0=eL t 7 eEntry xs→f 1=.func g cap→f 7=.int .i64 xs.length→f 8=.int .i64 i →
  pcOut (fin [.t 4] (run D 19 [.block 0,.seq t146k0] (.loop t146l0) f h))=some (.int .i64 (idxOf ((rest.findIdx? p).map (·+i)))):=by
 intro rest
 induction rest with
 | nil =>
  intro i f h hd h0 h1 h7 h8
  have hi:=drop_nil hd
  have:¬(i<xs.length):=by omega
  rw [run_loop_of t146l0.eq_1]
  simp [t146k0,h7,h8,this,idxOf]
 | cons e rest ih =>
  intro i f h hd h0 h1 h7 h8
  obtain ⟨hi,he,hd'⟩:=drop_at hd
  have hgx:=hg e (by rw [←he];exact List.getElem_mem hi)
  simp only [eEntry,List.cons_append,List.nil_append]at hgx
  rw [run_loop_of t146l0.eq_1]
  cases hp:p e with
  | true=>simp [h0,h1,h7,h8,hi,he,eEntry,hgx,hp,idxOf,List.findIdx?_cons]
  | false =>
   simp [h0,h1,h7,h8,hi,he,eEntry,hgx,hp]
   rw [wrap64 (by omega) (by omega)]
   refine (ih (i+1) _ h hd' ?_ ?_ ?_ ?_).trans ?_<;>simp [h0,h1,h7,List.findIdx?_cons,hp]
   congr 2
   funext q
   simp
   omega
theorem s146 (t:Bool) (xs:List Entry) (g:Nat) (cap:List DV) (p:Entry→Bool) (hg:∀x∈xs,∀h,fc D g ([eEntry x]++cap) h=some (.bool (p x),h)) (hl:xs.length≤1000000) :
  pcF D t146 [eL t 7 eEntry xs,.func g cap]=some (.int .i64 (idxOf (xs.findIdx? p))):=by
 unfold pcF
 rw [goRun_eq _ _ _ _ (by simp [t146])]
 simp [t146]
 refine (l146 t xs g cap p hg hl xs 0 _ _ rfl ?_ ?_ ?_ ?_).trans ?_<;>simp
theorem idxOf_ge {α:Type} (p:α→Bool) (xs:List α):decide (0≤idxOf (xs.findIdx? p))=xs.any p:=by
 cases h:xs.findIdx? p with
 | none =>
  rw [List.findIdx?_eq_none_iff]at h
  simp only [idxOf]
  have:xs.any p=false:=by rw [List.any_eq_false];exact fun x hx=>by simp [h x hx]
  rw [this];rfl
 | some i =>
  have:=List.findIdx?_eq_some_iff_getElem.1 h
  obtain ⟨hi,hp,_⟩:=this
  have:xs.any p=true:=List.any_eq_true.2 ⟨_,List.getElem_mem hi,hp⟩
  rw [this]
  simp [idxOf]
theorem s106 (t:Bool) (xs:List Entry) (g:Nat) (cap:List DV) (p:Entry→Bool) (hc:∀x∈cap,Flat 20 x) (hg:∀x∈xs,∀h,fc D g ([eEntry x]++cap) h=some (.bool (p x),h)) (hl:xs.length≤1000000) :
  pcF D t106 [eL t 7 eEntry xs,.func g cap]=some (.bool (xs.any p)):=by
 unfold pcF
 rw [goRun_eq _ _ _ _ (by simp [t106])]
 have hf:∀tg h,resolve tg h 200 (.func g cap)=some (.func g cap):=fun tg h=>flat_func (k:=20) hc tg h 200 (by decide)
 simp [t106,e146,hf,-res_func,s146 t xs g cap p hg hl]
 have:=idxOf_ge p xs
 simpa using this
end Go.Dm.Tc
/-
What functions of the library compute,part 2: comparisons by a function,rows that rise,searches by halves.
-/
namespace Go.Dm.Tc
def risesB {α:Type} (p:α→α→Bool):List α→Bool
 | a::b::r=>p a b && risesB p (b::r)
 | _=>true
end Go.Dm.Tc
/-
What functions of the library compute,part 3: the search by halves.
-/
namespace Go.Dm.Tc
def lowIdx {α:Type} (cm:α→Int) (xs:List α):Nat:=xs.findIdx fun x=>!decide (cm x<0)
def hitAt {α:Type} (cm:α→Int) (xs:List α):Bool:=match xs[lowIdx cm xs]? with|some x=>decide (cm x=0)|none=>false
theorem lowIdx_le {α:Type} (cm:α→Int) (xs:List α):lowIdx cm xs≤xs.length:=List.findIdx_le_length
theorem lowIdx_eq {α:Type} {cm:α→Int} {xs:List α} {k:Nat} (hk:k≤xs.length) (h1:∀q (hq:q<k),cm (xs[q]'(by omega))<0) (h2:∀(hq:k<xs.length),¬cm xs[k]<0):lowIdx cm xs=k:=by
 unfold lowIdx
 rcases Nat.lt_or_eq_of_le hk with hlt|rfl
 ·rw [List.findIdx_eq hlt]
  refine ⟨by simpa using h2 hlt,fun j hj=>by simpa using h1 j hj⟩
 ·rw [List.findIdx_eq_length]
  intro x hx
  obtain ⟨i,hi,rfl⟩:=List.mem_iff_getElem.1 hx
  simpa using h1 i hi
theorem l139 (t:Bool) (xs:List ID) (c s:Int) (g:Nat) (cap:List DV) (cm:ID→Int) (hg:∀x∈xs,∀h,fc D g ([eID x,.agg [.int .i64 c,.int .i64 s]]++cap) h=some (.int .i64 (cm x),h)) (hl:xs.length≤1000000)
  (hm:∀i j (hi:i<xs.length) (hj:j<xs.length),i≤j→cm xs[j]<0→cm xs[i]<0) (h:Heap) (cp:Option Nat) (hg0:h.get 0=some (.arr 37 2 [.agg [.int .i64 c,.int .i64 s]] cp)) :
  ∀(n i j:Nat) (f:FEnv),j-i=n→i≤j→j≤xs.length→f 0=eL t 2 eID xs→f 2=.func g cap→f 4=.ptr 0 2 0 0→f 8=.int .i64 xs.length→f 9=.int .i64 i→f 10=.int .i64 j →
  (∀q (hq:q<i),(hq':q<xs.length)→cm xs[q]<0)→(∀q (hq:q<xs.length),j≤q→¬cm xs[q]<0) →
  pcOut (fin [.t 6,.t 7] (run D 49 [.block 0,.seq t139k0] (.loop t139l0) f h))=some (.tup [.int .i64 (lowIdx cm xs),.bool (hitAt cm xs)]):=by
 intro n
 induction n using Nat.strongRecOn with
 | ind n ih =>
  intro i j f hn hij hj h0 h2 h4 h8 h9 h10 hlow hhigh
  rw [run_loop_of t139l0.eq_1]
  by_cases hlt:i<j
  ·have hk:(i+j) / 2<xs.length:=by omega
   have hke:xs[(i+j) / 2]?=some xs[(i+j) / 2]:=List.getElem?_eq_getElem hk
   have hgx:=hg xs[(i+j) / 2] (List.getElem_mem hk)
   simp only [eID,List.cons_append,List.nil_append]at hgx
   have w1:IntKind.i64.wrap ((i:Int)+j)=((i:Int)+j):=wrap64 (by omega) (by omega)
   have w2:IntKind.u64.wrap ((i:Int)+j)=((i:Int)+j):=wrapu64 (by omega) (by omega)
   have w3:IntKind.i64.wrap (((i+j) / 2:Nat):Int)=((i+j) / 2:Nat):=wrap64 (by omega) (by omega)
   have w4:IntKind.i64.wrap ((((i+j) / 2:Nat):Int)+1)=((((i+j) / 2:Nat):Int)+1):=wrap64 (by omega) (by omega)
   by_cases hc:cm xs[(i+j) / 2]<0
   ·simp [h0,h2,h4,h8,h9,h10,hlt,hk,hke,hg0,hgx,eID,w1,w2,w3,w4,hc,-Int.natCast_ediv]
    refine ih (j-((i+j) / 2+1)) (by omega) ((i+j) / 2+1) j _ rfl (by omega) hj ?_ ?_ ?_ ?_ ?_ ?_ ?_ hhigh<;>try simp [h0,h2,h4,h8,h10,eID]
    intro q hq hq'
    exact hm q ((i+j) / 2) hq' hk (by omega) hc
   ·simp [h0,h2,h4,h8,h9,h10,hlt,hk,hke,hg0,hgx,eID,w1,w2,w3,w4,hc,-Int.natCast_ediv]
    refine ih ((i+j) / 2-i) (by omega) i ((i+j) / 2) _ rfl (by omega) (by omega) ?_ ?_ ?_ ?_ ?_ ?_ hlow ?_<;>simp [h0,h2,h4,h8,h9,eID]
    intro q hq hq'
    exact Int.not_lt.1 fun hx=>hc (hm ((i+j) / 2) q hk hq hq' hx)
  ·have hij':i=j:=by omega
   subst hij'
   have hlo:lowIdx cm xs=i:=lowIdx_eq hj (fun q hq=>hlow q hq (by omega)) (fun hq=>hhigh i hq (Nat.le_refl i))
   by_cases hi:i<xs.length
   ·have hgx:=hg xs[i] (List.getElem_mem hi)
    simp only [eID,List.cons_append,List.nil_append]at hgx
    have hke:xs[i]?=some xs[i]:=List.getElem?_eq_getElem hi
    simp [t139k0,h0,h2,h4,h8,h9,h10,hi,hke,hg0,hgx,eID,hlo,hitAt,resultsOf]
    rfl
   ·simp [t139k0,h0,h2,h4,h8,h9,h10,hi,hlo,hitAt,resultsOf]
theorem s139 (t:Bool) (xs:List ID) (c s:Int) (g:Nat) (cap:List DV) (cm:ID→Int) (hg:∀x∈xs,∀h,fc D g ([eID x,.agg [.int .i64 c,.int .i64 s]]++cap) h=some (.int .i64 (cm x),h)) (hl:xs.length≤1000000)
  (hm:∀i j (hi:i<xs.length) (hj:j<xs.length),i≤j→cm xs[j]<0→cm xs[i]<0) :
  pcF D t139 [eL t 2 eID xs,.agg [.int .i64 c,.int .i64 s],.func g cap]=some (.tup [.int .i64 (lowIdx cm xs),.bool (hitAt cm xs)]):=by
 unfold pcF
 rw [goRun_eq _ _ _ _ (by simp [t139])]
 simp [t139]
 refine l139 t xs c s g cap cm hg hl hm _ (some 1) (by simp) xs.length 0 xs.length _ (by omega) (by omega) (by omega) ?_ ?_ ?_ ?_ ?_ ?_ ?_ ?_<;>simp
 intro q hq hq'
 omega
theorem l140 (t:Bool) (xs:List Advert) (c s:Int) (g:Nat) (cap:List DV) (cm:Advert→Int) (hg:∀x∈xs,∀h,fc D g ([eAdvert x,.agg [.int .i64 c,.int .i64 s]]++cap) h=some (.int .i64 (cm x),h)) (hl:xs.length≤1000000)
  (hm:∀i j (hi:i<xs.length) (hj:j<xs.length),i≤j→cm xs[j]<0→cm xs[i]<0) (h:Heap) (cp:Option Nat) (hg0:h.get 0=some (.arr 37 2 [.agg [.int .i64 c,.int .i64 s]] cp)) :
  ∀(n i j:Nat) (f:FEnv),j-i=n→i≤j→j≤xs.length→f 0=eL t 4 eAdvert xs→f 2=.func g cap→f 4=.ptr 0 2 0 0→f 8=.int .i64 xs.length→f 9=.int .i64 i→f 10=.int .i64 j →
  (∀q (hq:q<i),(hq':q<xs.length)→cm xs[q]<0)→(∀q (hq:q<xs.length),j≤q→¬cm xs[q]<0) →
  pcOut (fin [.t 6,.t 7] (run D 49 [.block 0,.seq t140k0] (.loop t140l0) f h))=some (.tup [.int .i64 (lowIdx cm xs),.bool (hitAt cm xs)]):=by
 intro n
 induction n using Nat.strongRecOn with
 | ind n ih =>
  intro i j f hn hij hj h0 h2 h4 h8 h9 h10 hlow hhigh
  rw [run_loop_of t140l0.eq_1]
  by_cases hlt:i<j
  ·have hk:(i+j) / 2<xs.length:=by omega
   have hke:xs[(i+j) / 2]?=some xs[(i+j) / 2]:=List.getElem?_eq_getElem hk
   have hgx:=hg xs[(i+j) / 2] (List.getElem_mem hk)
   simp only [eAdvert,List.cons_append,List.nil_append]at hgx
   have w1:IntKind.i64.wrap ((i:Int)+j)=((i:Int)+j):=wrap64 (by omega) (by omega)
   have w2:IntKind.u64.wrap ((i:Int)+j)=((i:Int)+j):=wrapu64 (by omega) (by omega)
   have w3:IntKind.i64.wrap (((i+j) / 2:Nat):Int)=((i+j) / 2:Nat):=wrap64 (by omega) (by omega)
   have w4:IntKind.i64.wrap ((((i+j) / 2:Nat):Int)+1)=((((i+j) / 2:Nat):Int)+1):=wrap64 (by omega) (by omega)
   by_cases hc:cm xs[(i+j) / 2]<0
   ·simp [h0,h2,h4,h8,h9,h10,hlt,hk,hke,hg0,hgx,eAdvert,w1,w2,w3,w4,hc,-Int.natCast_ediv]
    refine ih (j-((i+j) / 2+1)) (by omega) ((i+j) / 2+1) j _ rfl (by omega) hj ?_ ?_ ?_ ?_ ?_ ?_ ?_ hhigh<;>try simp [h0,h2,h4,h8,h10,eAdvert]
    intro q hq hq'
    exact hm q ((i+j) / 2) hq' hk (by omega) hc
   ·simp [h0,h2,h4,h8,h9,h10,hlt,hk,hke,hg0,hgx,eAdvert,w1,w2,w3,w4,hc,-Int.natCast_ediv]
    refine ih ((i+j) / 2-i) (by omega) i ((i+j) / 2) _ rfl (by omega) (by omega) ?_ ?_ ?_ ?_ ?_ ?_ hlow ?_<;>simp [h0,h2,h4,h8,h9,eAdvert]
    intro q hq hq'
    exact Int.not_lt.1 fun hx=>hc (hm ((i+j) / 2) q hk hq hq' hx)
  ·have hij':i=j:=by omega
   subst hij'
   have hlo:lowIdx cm xs=i:=lowIdx_eq hj (fun q hq=>hlow q hq (by omega)) (fun hq=>hhigh i hq (Nat.le_refl i))
   by_cases hi:i<xs.length
   ·have hgx:=hg xs[i] (List.getElem_mem hi)
    simp only [eAdvert,List.cons_append,List.nil_append]at hgx
    have hke:xs[i]?=some xs[i]:=List.getElem?_eq_getElem hi
    simp [t140k0,h0,h2,h4,h8,h9,h10,hi,hke,hg0,hgx,eAdvert,hlo,hitAt,resultsOf]
    rfl
   ·simp [t140k0,h0,h2,h4,h8,h9,h10,hi,hlo,hitAt,resultsOf]
theorem s140 (t:Bool) (xs:List Advert) (c s:Int) (g:Nat) (cap:List DV) (cm:Advert→Int) (hg:∀x∈xs,∀h,fc D g ([eAdvert x,.agg [.int .i64 c,.int .i64 s]]++cap) h=some (.int .i64 (cm x),h)) (hl:xs.length≤1000000)
  (hm:∀i j (hi:i<xs.length) (hj:j<xs.length),i≤j→cm xs[j]<0→cm xs[i]<0) :
  pcF D t140 [eL t 4 eAdvert xs,.agg [.int .i64 c,.int .i64 s],.func g cap]=some (.tup [.int .i64 (lowIdx cm xs),.bool (hitAt cm xs)]):=by
 unfold pcF
 rw [goRun_eq _ _ _ _ (by simp [t140])]
 simp [t140]
 refine l140 t xs c s g cap cm hg hl hm _ (some 1) (by simp) xs.length 0 xs.length _ (by omega) (by omega) (by omega) ?_ ?_ ?_ ?_ ?_ ?_ ?_ ?_<;>simp
 intro q hq hq'
 omega
theorem l154 (t:Bool) (xs:List Entry) (c s:Int) (g:Nat) (cap:List DV) (cm:Entry→Int) (hg:∀x∈xs,∀h,fc D g ([eEntry x,.agg [.int .i64 c,.int .i64 s]]++cap) h=some (.int .i64 (cm x),h)) (hl:xs.length≤1000000)
  (hm:∀i j (hi:i<xs.length) (hj:j<xs.length),i≤j→cm xs[j]<0→cm xs[i]<0) (h:Heap) (cp:Option Nat) (hg0:h.get 0=some (.arr 37 2 [.agg [.int .i64 c,.int .i64 s]] cp)) :
  ∀(n i j:Nat) (f:FEnv),j-i=n→i≤j→j≤xs.length→f 0=eL t 7 eEntry xs→f 2=.func g cap→f 4=.ptr 0 2 0 0→f 8=.int .i64 xs.length→f 9=.int .i64 i→f 10=.int .i64 j →
  (∀q (hq:q<i),(hq':q<xs.length)→cm xs[q]<0)→(∀q (hq:q<xs.length),j≤q→¬cm xs[q]<0) →
  pcOut (fin [.t 6,.t 7] (run D 49 [.block 0,.seq t154k0] (.loop t154l0) f h))=some (.tup [.int .i64 (lowIdx cm xs),.bool (hitAt cm xs)]):=by
 intro n
 induction n using Nat.strongRecOn with
 | ind n ih =>
  intro i j f hn hij hj h0 h2 h4 h8 h9 h10 hlow hhigh
  rw [run_loop_of t154l0.eq_1]
  by_cases hlt:i<j
  ·have hk:(i+j) / 2<xs.length:=by omega
   have hke:xs[(i+j) / 2]?=some xs[(i+j) / 2]:=List.getElem?_eq_getElem hk
   have hgx:=hg xs[(i+j) / 2] (List.getElem_mem hk)
   simp only [eEntry,List.cons_append,List.nil_append]at hgx
   have w1:IntKind.i64.wrap ((i:Int)+j)=((i:Int)+j):=wrap64 (by omega) (by omega)
   have w2:IntKind.u64.wrap ((i:Int)+j)=((i:Int)+j):=wrapu64 (by omega) (by omega)
   have w3:IntKind.i64.wrap (((i+j) / 2:Nat):Int)=((i+j) / 2:Nat):=wrap64 (by omega) (by omega)
   have w4:IntKind.i64.wrap ((((i+j) / 2:Nat):Int)+1)=((((i+j) / 2:Nat):Int)+1):=wrap64 (by omega) (by omega)
   by_cases hc:cm xs[(i+j) / 2]<0
   ·simp [h0,h2,h4,h8,h9,h10,hlt,hk,hke,hg0,hgx,eEntry,w1,w2,w3,w4,hc,-Int.natCast_ediv]
    refine ih (j-((i+j) / 2+1)) (by omega) ((i+j) / 2+1) j _ rfl (by omega) hj ?_ ?_ ?_ ?_ ?_ ?_ ?_ hhigh<;>try simp [h0,h2,h4,h8,h10,eEntry]
    intro q hq hq'
    exact hm q ((i+j) / 2) hq' hk (by omega) hc
   ·simp [h0,h2,h4,h8,h9,h10,hlt,hk,hke,hg0,hgx,eEntry,w1,w2,w3,w4,hc,-Int.natCast_ediv]
    refine ih ((i+j) / 2-i) (by omega) i ((i+j) / 2) _ rfl (by omega) (by omega) ?_ ?_ ?_ ?_ ?_ ?_ hlow ?_<;>simp [h0,h2,h4,h8,h9,eEntry]
    intro q hq hq'
    exact Int.not_lt.1 fun hx=>hc (hm ((i+j) / 2) q hk hq hq' hx)
  ·have hij':i=j:=by omega
   subst hij'
   have hlo:lowIdx cm xs=i:=lowIdx_eq hj (fun q hq=>hlow q hq (by omega)) (fun hq=>hhigh i hq (Nat.le_refl i))
   by_cases hi:i<xs.length
   ·have hgx:=hg xs[i] (List.getElem_mem hi)
    simp only [eEntry,List.cons_append,List.nil_append]at hgx
    have hke:xs[i]?=some xs[i]:=List.getElem?_eq_getElem hi
    simp [t154k0,h0,h2,h4,h8,h9,h10,hi,hke,hg0,hgx,eEntry,hlo,hitAt,resultsOf]
    rfl
   ·simp [t154k0,h0,h2,h4,h8,h9,h10,hi,hlo,hitAt,resultsOf]
theorem s154 (t:Bool) (xs:List Entry) (c s:Int) (g:Nat) (cap:List DV) (cm:Entry→Int) (hg:∀x∈xs,∀h,fc D g ([eEntry x,.agg [.int .i64 c,.int .i64 s]]++cap) h=some (.int .i64 (cm x),h)) (hl:xs.length≤1000000)
  (hm:∀i j (hi:i<xs.length) (hj:j<xs.length),i≤j→cm xs[j]<0→cm xs[i]<0) :
  pcF D t154 [eL t 7 eEntry xs,.agg [.int .i64 c,.int .i64 s],.func g cap]=some (.tup [.int .i64 (lowIdx cm xs),.bool (hitAt cm xs)]):=by
 unfold pcF
 rw [goRun_eq _ _ _ _ (by simp [t154])]
 simp [t154]
 refine l154 t xs c s g cap cm hg hl hm _ (some 1) (by simp) xs.length 0 xs.length _ (by omega) (by omega) (by omega) ?_ ?_ ?_ ?_ ?_ ?_ ?_ ?_<;>simp
 intro q hq hq'
 omega
theorem l162 (t:Bool) (xs:List OwnS) (c s:Int) (g:Nat) (cap:List DV) (cm:OwnS→Int) (hg:∀x∈xs,∀h,fc D g ([eOwn x,.agg [.int .i64 c,.int .i64 s]]++cap) h=some (.int .i64 (cm x),h)) (hl:xs.length≤1000000)
  (hm:∀i j (hi:i<xs.length) (hj:j<xs.length),i≤j→cm xs[j]<0→cm xs[i]<0) (h:Heap) (cp:Option Nat) (hg0:h.get 0=some (.arr 37 2 [.agg [.int .i64 c,.int .i64 s]] cp)) :
  ∀(n i j:Nat) (f:FEnv),j-i=n→i≤j→j≤xs.length→f 0=eL t 3 eOwn xs→f 2=.func g cap→f 4=.ptr 0 2 0 0→f 8=.int .i64 xs.length→f 9=.int .i64 i→f 10=.int .i64 j →
  (∀q (hq:q<i),(hq':q<xs.length)→cm xs[q]<0)→(∀q (hq:q<xs.length),j≤q→¬cm xs[q]<0) →
  pcOut (fin [.t 6,.t 7] (run D 49 [.block 0,.seq t162k0] (.loop t162l0) f h))=some (.tup [.int .i64 (lowIdx cm xs),.bool (hitAt cm xs)]):=by
 intro n
 induction n using Nat.strongRecOn with
 | ind n ih =>
  intro i j f hn hij hj h0 h2 h4 h8 h9 h10 hlow hhigh
  rw [run_loop_of t162l0.eq_1]
  by_cases hlt:i<j
  ·have hk:(i+j) / 2<xs.length:=by omega
   have hke:xs[(i+j) / 2]?=some xs[(i+j) / 2]:=List.getElem?_eq_getElem hk
   have hgx:=hg xs[(i+j) / 2] (List.getElem_mem hk)
   simp only [eOwn,List.cons_append,List.nil_append]at hgx
   have w1:IntKind.i64.wrap ((i:Int)+j)=((i:Int)+j):=wrap64 (by omega) (by omega)
   have w2:IntKind.u64.wrap ((i:Int)+j)=((i:Int)+j):=wrapu64 (by omega) (by omega)
   have w3:IntKind.i64.wrap (((i+j) / 2:Nat):Int)=((i+j) / 2:Nat):=wrap64 (by omega) (by omega)
   have w4:IntKind.i64.wrap ((((i+j) / 2:Nat):Int)+1)=((((i+j) / 2:Nat):Int)+1):=wrap64 (by omega) (by omega)
   by_cases hc:cm xs[(i+j) / 2]<0
   ·simp [h0,h2,h4,h8,h9,h10,hlt,hk,hke,hg0,hgx,eOwn,w1,w2,w3,w4,hc,-Int.natCast_ediv]
    refine ih (j-((i+j) / 2+1)) (by omega) ((i+j) / 2+1) j _ rfl (by omega) hj ?_ ?_ ?_ ?_ ?_ ?_ ?_ hhigh<;>try simp [h0,h2,h4,h8,h10,eOwn]
    intro q hq hq'
    exact hm q ((i+j) / 2) hq' hk (by omega) hc
   ·simp [h0,h2,h4,h8,h9,h10,hlt,hk,hke,hg0,hgx,eOwn,w1,w2,w3,w4,hc,-Int.natCast_ediv]
    refine ih ((i+j) / 2-i) (by omega) i ((i+j) / 2) _ rfl (by omega) (by omega) ?_ ?_ ?_ ?_ ?_ ?_ hlow ?_<;>simp [h0,h2,h4,h8,h9,eOwn]
    intro q hq hq'
    exact Int.not_lt.1 fun hx=>hc (hm ((i+j) / 2) q hk hq hq' hx)
  ·have hij':i=j:=by omega
   subst hij'
   have hlo:lowIdx cm xs=i:=lowIdx_eq hj (fun q hq=>hlow q hq (by omega)) (fun hq=>hhigh i hq (Nat.le_refl i))
   by_cases hi:i<xs.length
   ·have hgx:=hg xs[i] (List.getElem_mem hi)
    simp only [eOwn,List.cons_append,List.nil_append]at hgx
    have hke:xs[i]?=some xs[i]:=List.getElem?_eq_getElem hi
    simp [t162k0,h0,h2,h4,h8,h9,h10,hi,hke,hg0,hgx,eOwn,hlo,hitAt,resultsOf]
    rfl
   ·simp [t162k0,h0,h2,h4,h8,h9,h10,hi,hlo,hitAt,resultsOf]
theorem s162 (t:Bool) (xs:List OwnS) (c s:Int) (g:Nat) (cap:List DV) (cm:OwnS→Int) (hg:∀x∈xs,∀h,fc D g ([eOwn x,.agg [.int .i64 c,.int .i64 s]]++cap) h=some (.int .i64 (cm x),h)) (hl:xs.length≤1000000)
  (hm:∀i j (hi:i<xs.length) (hj:j<xs.length),i≤j→cm xs[j]<0→cm xs[i]<0) :
  pcF D t162 [eL t 3 eOwn xs,.agg [.int .i64 c,.int .i64 s],.func g cap]=some (.tup [.int .i64 (lowIdx cm xs),.bool (hitAt cm xs)]):=by
 unfold pcF
 rw [goRun_eq _ _ _ _ (by simp [t162])]
 simp [t162]
 refine l162 t xs c s g cap cm hg hl hm _ (some 1) (by simp) xs.length 0 xs.length _ (by omega) (by omega) (by omega) ?_ ?_ ?_ ?_ ?_ ?_ ?_ ?_<;>simp
 intro q hq hq'
 omega
end Go.Dm.Tc
/-
What functions of the library compute,part 4: an element put into a row of the call's own.
-/
namespace Go.Dm.Tc
theorem a73 (H:Heap) (n0:Nat) (xs:List Advert) (i:Nat) (x:Advert) (vid vety:Nat) (vcap:Option Nat) (g0:H.get n0=some (.arr 42 4 (xs.map eAdvert++[.unk]) none)) (gv:H.get vid=some (.arr vety 4 [eAdvert x] vcap)) (hi:i≤xs.length) (hl:xs.length≤1000000) (wf:WF H) (hlim:H.lim≤n0) (hne:vid≠n0) :
  ∃ H',goRun (ev D) t73 [.sl n0 4 0 xs.length,.int .i64 i,.sl vid 4 0 1] H=some (.sl n0 4 0 (xs.length+1),H')∧H'.get n0=some (.arr 42 4 ((xs.take i++x::xs.drop i).map eAdvert) none):=by
 have hlt:=get_some_lt g0
 have w1:IntKind.i64.wrap ((xs.length:Int)+1)=(xs.length:Int)+1:=wrap64 (by omega) (by omega)
 rw [goRun_eq _ _ _ _ (by simp [t73])]
 by_cases hin:i=xs.length
 ·subst hin
  simp [t73,g0,gv]
  rw [appendD_in g0 (by simp) hlim (by simp;omega) (by decide) (by simp)]
  simp [get_set wf hlt,splice]
 ·have hin':¬((i:Int)=xs.length):=by omega
  have w2:IntKind.i64.wrap ((i:Int)+1)=(i:Int)+1:=wrap64 (by omega) (by omega)
  have hi1:i+1≤xs.length+1:=by omega
  have hi2:i+1+(xs.length-i)≤xs.length+1:=by omega
  have hi3:i+(xs.length+1-i)≤xs.length+1:=by omega
  have hi4:i≤xs.length+1:=by omega
  have hx:i<(xs.map eAdvert).length:=by simp;omega
  have e1:=ins_shift (xs.map eAdvert) .unk i hx
  have e2:=ins_put (xs.map eAdvert) (eAdvert x) i hx
  have hi5:xs.length+1≤min (i+1) xs.length+(xs.length-i):=by omega
  have hi6:i+1≤min (i+1) xs.length+(xs.length-i):=by omega
  simp only [List.length_map]at e1 e2
  simp [t73,g0,gv,hin',hi,w1,w2,e1,e2,hi5,hi6,hi1,hi2,hi3,hi4,e142,overlapsHook,hne,hlim,hlt,get_set wf,get_set wf.set]
  have e3:List.take (xs.length+1-i) [eAdvert x]=[eAdvert x]:=List.take_of_length_le (by simp;omega)
  rw [e3,e2]
theorem b73 (H:Heap) (n0:Nat) (xs:List Advert) (i:Nat) (x:Advert) (vid vety:Nat) (vcap:Option Nat) (g0:H.get n0=some (.arr 42 4 (xs.map eAdvert) (some xs.length))) (gv:H.get vid=some (.arr vety 4 [eAdvert x] vcap)) (hi:i≤xs.length) (hl:xs.length≤1000000) (wf:WF H) (hlim:H.lim≤n0) (hne:vid≠n0) :
  ∃ H',goRun (ev D) t73 [.sl n0 4 0 xs.length,.int .i64 i,.sl vid 4 0 1] H=some (.sl H.n 4 0 (xs.length+1),H')∧H'.get H.n=some (.arr 42 4 ((xs.take i++x::xs.drop i).map eAdvert) none):=by
 have hlt:=get_some_lt g0
 have hvt:=get_some_lt gv
 have w1:IntKind.i64.wrap ((xs.length:Int)+1)=(xs.length:Int)+1:=wrap64 (by omega) (by omega)
 rw [goRun_eq _ _ _ _ (by simp [t73])]
 by_cases hin:i=xs.length
 ·subst hin
  simp [t73,g0,gv]
  rw [appendD_new g0 (by simp) (by simp) (by simp;omega) (by decide) (by simp)]
  simp
  rw [List.take_of_length_le (by simp)]
 ·have hin':¬((i:Int)=xs.length):=by omega
  have w2:IntKind.i64.wrap ((i:Int)+1)=(i:Int)+1:=wrap64 (by omega) (by omega)
  have w3:IntKind.i64.wrap ((xs.length:Int)+1-i)=((xs.length+1-i:Nat):Int):=by rw [wrap64 (by omega) (by omega)];omega
  have hx:i<(xs.map eAdvert).length:=by simp;omega
  have hq:(xs.length:Int)<(xs.length:Int)+1:=by omega
  have hll:H.lim≤H.n:=by omega
  have hz:((xs.length+1-i:Nat):Int)≤140737488355328:=by omega
  have e1:=fun z=>ins_new1 (xs.map eAdvert) z (eAdvert x) i hx
  have e2:=fun z=>ins_new2 (xs.map eAdvert) z (eAdvert x) i hx
  have e3:i+(xs.length+1-i)=xs.length+1:=by omega
  have e4:i+(xs.length-i+1)=xs.length+1:=by omega
  have e5:i+1≤xs.length+1:=by omega
  have e6:i+1+(xs.length-i)≤xs.length+1:=by omega
  have e7:i≤xs.length+1:=by omega
  have e8:List.take (xs.length+1-i) [eAdvert x]=[eAdvert x]:=List.take_of_length_le (by simp;omega)
  have e9:List.take (xs.length-i) (List.drop i (List.map eAdvert xs))=List.drop i (List.map eAdvert xs):=List.take_of_length_le (by simp)
  simp only [List.length_map]at e1 e2
  simp [t73,g0,gv,hin',hi,w1,w2,w3,hq,hz]
  rw [appendD_new g0 (by simp;omega) (by simp;omega) (by simp;omega) (by decide) (by simp;omega)]
  simp [g0,gv,w2,hi,hlt,hvt,hlim,hll,e3,e4,e5,e6,e7,e1,e2,e8,e9,Nat.ne_of_lt hlt,Nat.ne_of_lt hvt,Nat.min_eq_left hi]
theorem s73 (lo:Nat) (h:Heap) (v:DV) (xs:List Advert) (i:Nat) (x:Advert) (vid vety c:Nat) (ho:Own lo h v 42 4 (xs.map eAdvert)) (gv:h.get vid=some (.arr vety 4 [eAdvert x] (some c))) (hi:i≤xs.length) (hl:xs.length≤1000000) (wf:WF h) (hlo:lo≤h.n) (hlim:h.lim≤h.n) :
  ∃ v' h',fc D 73 [v,.int .i64 i,.sl vid 4 0 1] h=some (v',h')∧Own lo h' v' 42 4 ((xs.take i++x::xs.drop i).map eAdvert)∧Ext lo h h'∧Keep 42 h h':=by
 have hvt:=get_some_lt gv
 rw [e73]
 cases ho with
 | nil hv hx =>
  subst hv
  have hx0:xs=[]:=List.map_eq_nil_iff.1 hx
  subst hx0
  have hi0:i=0:=by simpa using hi
  subst hi0
  refine ⟨.sl h.n 4 0 1,h.push (.arr 42 4 [eAdvert x] none),?_,.arr h.n rfl get_push_new hlim hlo,(Ext.refl hlo wf).push,(Keep.refl _ _).push⟩
  simp only [modeRun,t73]
  rw [goRun_eq _ _ _ _ (by simp)]
  simp [gv,sliceV,appendD]
 | arr id hv hg hl1 hi1 =>
  subst hv
  have hlt:=get_some_lt hg
  have hne:vid≠id:=by intro e;subst e;rw [gv]at hg;simp at hg
  have hw:WF (h.set id .dead):=wf.set
  have gv':∀o l,({(h.set id .dead).push o with lim:=l}:Heap).get vid=some (.arr vety 4 [eAdvert x] (some c)):=fun o l=>by
   rw [get_lim,get_push,if_neg (by rw [set_n];omega),get_set wf hlt,if_neg hne];exact gv
  have g0:∀o l,({(h.set id .dead).push o with lim:=l}:Heap).get h.n=some o:=fun o l=>by
   rw [get_lim];exact get_push_new
  have hall:((xs.take i++x::xs.drop i).map eAdvert).all (below 200 h.n)=true:=by
   rw [List.all_eq_true]
   intro y hy
   obtain ⟨z,_,rfl⟩:=List.mem_map.1 hy
   exact (dep_advert z).belowN (by decide)
  have hd:List.take (xs.length+1) (List.drop 0 ((xs.take i++x::xs.drop i).map eAdvert))=(xs.take i++x::xs.drop i).map eAdvert:=by
   rw [List.drop_zero,List.take_of_length_le (by simp only [List.length_map,List.length_append,List.length_take,List.length_cons,List.length_drop];omega)]
  have sc1:scnRun (ev D) t73 [.int .i64 i,.sl vid 4 0 1] id 4 0 (xs.map eAdvert).length 42 (xs.map eAdvert) h 1 none=some ((xs.take i++x::xs.drop i).map eAdvert):=by
   obtain ⟨H',k1,k2⟩:=a73 {(h.set id .dead).push (.arr 42 4 (xs.map eAdvert++[.unk]) none) with lim:=h.n} h.n xs i x vid vety (some c) (g0 _ _) (gv' _ _) hi hl hw.push (Nat.le_refl _) (by omega)
   simp only [scnRun,List.length_map,List.replicate_one]
   rw [k1]
   have hlen:0+(xs.length+1)≤((xs.take i++x::xs.drop i).map eAdvert).length:=by simp;omega
   simp only [settle,k2,true_and,Nat.le_refl]
   rw [hd,if_pos ⟨hlen,hall⟩]
  have sc2:scnRun (ev D) t73 [.int .i64 i,.sl vid 4 0 1] id 4 0 (xs.map eAdvert).length 42 (xs.map eAdvert) h 0 (some ((xs.map eAdvert).length+0))=some ((xs.take i++x::xs.drop i).map eAdvert):=by
   obtain ⟨H',k1,k2⟩:=b73 {(h.set id .dead).push (.arr 42 4 (xs.map eAdvert) (some xs.length)) with lim:=h.n} h.n xs i x vid vety (some c) (g0 _ _) (gv' _ _) hi hl hw.push (Nat.le_refl _) (by omega)
   simp only [scnRun,List.length_map,List.replicate_zero,List.append_nil,Nat.add_zero]
   rw [k1]
   have hlen:0+(xs.length+1)≤((xs.take i++x::xs.drop i).map eAdvert).length:=by simp;omega
   have hn:h.n≤({(h.set id .dead).push (.arr 42 4 (xs.map eAdvert) (some xs.length)) with lim:=h.n}:Heap).n:=Nat.le_succ _
   simp only [settle,k2,true_and]
   rw [hd,if_pos ⟨hn,hlen,hall⟩]
  have hsame:sameL ((xs.take i++x::xs.drop i).map eAdvert) ((xs.take i++x::xs.drop i).map eAdvert)=true:=by
   simp only [sameL,nat_beq_self,Bool.true_and]
   exact all_zip_self fun y hy=>by
    obtain ⟨z,_,rfl⟩:=List.mem_map.1 hy
    exact (dep_advert z).same (by decide)
  refine ⟨.sl h.n 4 0 ((xs.take i++x::xs.drop i).map eAdvert).length,(h.set id .dead).push (.arr 42 4 ((xs.take i++x::xs.drop i).map eAdvert) none),?_,.arr h.n rfl (by exact get_push_new) hlim hlo,((Ext.refl hlo wf).set hi1 hlt).push,((Keep.refl _ _).set wf hg hlt).push⟩
  simp only [modeRun,show t73.mode=.split from rfl,hg,true_and,hl1,if_true]
  unfold splitRun
  have hk:(List.map visLen [DV.int .i64 (i:Int),DV.sl vid 4 0 1]).foldl (·+·) 0=1:=rfl
  rw [hk,sc1]
  simp only [List.range_one,List.all_cons,List.all_nil,sc2,hsame,Bool.and_self,if_true]
theorem q73 {h:Heap} {v:DV} {i vid:Nat} {A:Option (DV×Heap)} (hA:fc D 73 [v,.int .i64 (i:Int),.sl vid 4 0 1] h=A) (lo:Nat) (xs:List Advert) (x:Advert) {vety c:Nat} (ho:Own lo h v 42 4 (xs.map eAdvert)) (gv:h.get vid=some (.arr vety 4 [eAdvert x] (some c))) (hi:i≤xs.length) (hl:xs.length≤1000000) (wf:WF h) (hlo:lo≤h.n) (hlim:h.lim≤h.n) :
  ∃ v' h',A=some (v',h')∧Own lo h' v' 42 4 ((xs.take i++x::xs.drop i).map eAdvert)∧Ext lo h h'∧Keep 42 h h':=by
 subst hA
 exact s73 lo h v xs i x vid vety c ho gv hi hl wf hlo hlim
theorem a74 (H:Heap) (n0:Nat) (xs:List ID) (i:Nat) (x:ID) (vid vety:Nat) (vcap:Option Nat) (g0:H.get n0=some (.arr 37 2 (xs.map eID++[.unk]) none)) (gv:H.get vid=some (.arr vety 2 [eID x] vcap)) (hi:i≤xs.length) (hl:xs.length≤1000000) (wf:WF H) (hlim:H.lim≤n0) (hne:vid≠n0) :
  ∃ H',goRun (ev D) t74 [.sl n0 2 0 xs.length,.int .i64 i,.sl vid 2 0 1] H=some (.sl n0 2 0 (xs.length+1),H')∧H'.get n0=some (.arr 37 2 ((xs.take i++x::xs.drop i).map eID) none):=by
 have hlt:=get_some_lt g0
 have w1:IntKind.i64.wrap ((xs.length:Int)+1)=(xs.length:Int)+1:=wrap64 (by omega) (by omega)
 rw [goRun_eq _ _ _ _ (by simp [t74])]
 by_cases hin:i=xs.length
 ·subst hin
  simp [t74,g0,gv]
  rw [appendD_in g0 (by simp) hlim (by simp;omega) (by decide) (by simp)]
  simp [get_set wf hlt,splice]
 ·have hin':¬((i:Int)=xs.length):=by omega
  have w2:IntKind.i64.wrap ((i:Int)+1)=(i:Int)+1:=wrap64 (by omega) (by omega)
  have hi1:i+1≤xs.length+1:=by omega
  have hi2:i+1+(xs.length-i)≤xs.length+1:=by omega
  have hi3:i+(xs.length+1-i)≤xs.length+1:=by omega
  have hi4:i≤xs.length+1:=by omega
  have hx:i<(xs.map eID).length:=by simp;omega
  have e1:=ins_shift (xs.map eID) .unk i hx
  have e2:=ins_put (xs.map eID) (eID x) i hx
  have hi5:xs.length+1≤min (i+1) xs.length+(xs.length-i):=by omega
  have hi6:i+1≤min (i+1) xs.length+(xs.length-i):=by omega
  simp only [List.length_map]at e1 e2
  simp [t74,g0,gv,hin',hi,w1,w2,e1,e2,hi5,hi6,hi1,hi2,hi3,hi4,e144,overlapsHook,hne,hlim,hlt,get_set wf,get_set wf.set]
  have e3:List.take (xs.length+1-i) [eID x]=[eID x]:=List.take_of_length_le (by simp;omega)
  rw [e3,e2]
theorem b74 (H:Heap) (n0:Nat) (xs:List ID) (i:Nat) (x:ID) (vid vety:Nat) (vcap:Option Nat) (g0:H.get n0=some (.arr 37 2 (xs.map eID) (some xs.length))) (gv:H.get vid=some (.arr vety 2 [eID x] vcap)) (hi:i≤xs.length) (hl:xs.length≤1000000) (wf:WF H) (hlim:H.lim≤n0) (hne:vid≠n0) :
  ∃ H',goRun (ev D) t74 [.sl n0 2 0 xs.length,.int .i64 i,.sl vid 2 0 1] H=some (.sl H.n 2 0 (xs.length+1),H')∧H'.get H.n=some (.arr 37 2 ((xs.take i++x::xs.drop i).map eID) none):=by
 have hlt:=get_some_lt g0
 have hvt:=get_some_lt gv
 have w1:IntKind.i64.wrap ((xs.length:Int)+1)=(xs.length:Int)+1:=wrap64 (by omega) (by omega)
 rw [goRun_eq _ _ _ _ (by simp [t74])]
 by_cases hin:i=xs.length
 ·subst hin
  simp [t74,g0,gv]
  rw [appendD_new g0 (by simp) (by simp) (by simp;omega) (by decide) (by simp)]
  simp
  rw [List.take_of_length_le (by simp)]
 ·have hin':¬((i:Int)=xs.length):=by omega
  have w2:IntKind.i64.wrap ((i:Int)+1)=(i:Int)+1:=wrap64 (by omega) (by omega)
  have w3:IntKind.i64.wrap ((xs.length:Int)+1-i)=((xs.length+1-i:Nat):Int):=by rw [wrap64 (by omega) (by omega)];omega
  have hx:i<(xs.map eID).length:=by simp;omega
  have hq:(xs.length:Int)<(xs.length:Int)+1:=by omega
  have hll:H.lim≤H.n:=by omega
  have hz:((xs.length+1-i:Nat):Int)≤140737488355328:=by omega
  have e1:=fun z=>ins_new1 (xs.map eID) z (eID x) i hx
  have e2:=fun z=>ins_new2 (xs.map eID) z (eID x) i hx
  have e3:i+(xs.length+1-i)=xs.length+1:=by omega
  have e4:i+(xs.length-i+1)=xs.length+1:=by omega
  have e5:i+1≤xs.length+1:=by omega
  have e6:i+1+(xs.length-i)≤xs.length+1:=by omega
  have e7:i≤xs.length+1:=by omega
  have e8:List.take (xs.length+1-i) [eID x]=[eID x]:=List.take_of_length_le (by simp;omega)
  have e9:List.take (xs.length-i) (List.drop i (List.map eID xs))=List.drop i (List.map eID xs):=List.take_of_length_le (by simp)
  simp only [List.length_map]at e1 e2
  simp [t74,g0,gv,hin',hi,w1,w2,w3,hq,hz]
  rw [appendD_new g0 (by simp;omega) (by simp;omega) (by simp;omega) (by decide) (by simp;omega)]
  simp [g0,gv,w2,hi,hlt,hvt,hlim,hll,e3,e4,e5,e6,e7,e1,e2,e8,e9,Nat.ne_of_lt hlt,Nat.ne_of_lt hvt,Nat.min_eq_left hi]
theorem s74 (lo:Nat) (h:Heap) (v:DV) (xs:List ID) (i:Nat) (x:ID) (vid vety c:Nat) (ho:Own lo h v 37 2 (xs.map eID)) (gv:h.get vid=some (.arr vety 2 [eID x] (some c))) (hi:i≤xs.length) (hl:xs.length≤1000000) (wf:WF h) (hlo:lo≤h.n) (hlim:h.lim≤h.n) :
  ∃ v' h',fc D 74 [v,.int .i64 i,.sl vid 2 0 1] h=some (v',h')∧Own lo h' v' 37 2 ((xs.take i++x::xs.drop i).map eID)∧Ext lo h h'∧Keep 37 h h':=by
 have hvt:=get_some_lt gv
 rw [e74]
 cases ho with
 | nil hv hx =>
  subst hv
  have hx0:xs=[]:=List.map_eq_nil_iff.1 hx
  subst hx0
  have hi0:i=0:=by simpa using hi
  subst hi0
  refine ⟨.sl h.n 2 0 1,h.push (.arr 37 2 [eID x] none),?_,.arr h.n rfl get_push_new hlim hlo,(Ext.refl hlo wf).push,(Keep.refl _ _).push⟩
  simp only [modeRun,t74]
  rw [goRun_eq _ _ _ _ (by simp)]
  simp [gv,sliceV,appendD]
 | arr id hv hg hl1 hi1 =>
  subst hv
  have hlt:=get_some_lt hg
  have hne:vid≠id:=by intro e;subst e;rw [gv]at hg;simp at hg
  have hw:WF (h.set id .dead):=wf.set
  have gv':∀o l,({(h.set id .dead).push o with lim:=l}:Heap).get vid=some (.arr vety 2 [eID x] (some c)):=fun o l=>by
   rw [get_lim,get_push,if_neg (by rw [set_n];omega),get_set wf hlt,if_neg hne];exact gv
  have g0:∀o l,({(h.set id .dead).push o with lim:=l}:Heap).get h.n=some o:=fun o l=>by
   rw [get_lim];exact get_push_new
  have hall:((xs.take i++x::xs.drop i).map eID).all (below 200 h.n)=true:=by
   rw [List.all_eq_true]
   intro y hy
   obtain ⟨z,_,rfl⟩:=List.mem_map.1 hy
   exact (dep_id z).belowN (by decide)
  have hd:List.take (xs.length+1) (List.drop 0 ((xs.take i++x::xs.drop i).map eID))=(xs.take i++x::xs.drop i).map eID:=by
   rw [List.drop_zero,List.take_of_length_le (by simp only [List.length_map,List.length_append,List.length_take,List.length_cons,List.length_drop];omega)]
  have sc1:scnRun (ev D) t74 [.int .i64 i,.sl vid 2 0 1] id 2 0 (xs.map eID).length 37 (xs.map eID) h 1 none=some ((xs.take i++x::xs.drop i).map eID):=by
   obtain ⟨H',k1,k2⟩:=a74 {(h.set id .dead).push (.arr 37 2 (xs.map eID++[.unk]) none) with lim:=h.n} h.n xs i x vid vety (some c) (g0 _ _) (gv' _ _) hi hl hw.push (Nat.le_refl _) (by omega)
   simp only [scnRun,List.length_map,List.replicate_one]
   rw [k1]
   have hlen:0+(xs.length+1)≤((xs.take i++x::xs.drop i).map eID).length:=by simp;omega
   simp only [settle,k2,true_and,Nat.le_refl]
   rw [hd,if_pos ⟨hlen,hall⟩]
  have sc2:scnRun (ev D) t74 [.int .i64 i,.sl vid 2 0 1] id 2 0 (xs.map eID).length 37 (xs.map eID) h 0 (some ((xs.map eID).length+0))=some ((xs.take i++x::xs.drop i).map eID):=by
   obtain ⟨H',k1,k2⟩:=b74 {(h.set id .dead).push (.arr 37 2 (xs.map eID) (some xs.length)) with lim:=h.n} h.n xs i x vid vety (some c) (g0 _ _) (gv' _ _) hi hl hw.push (Nat.le_refl _) (by omega)
   simp only [scnRun,List.length_map,List.replicate_zero,List.append_nil,Nat.add_zero]
   rw [k1]
   have hlen:0+(xs.length+1)≤((xs.take i++x::xs.drop i).map eID).length:=by simp;omega
   have hn:h.n≤({(h.set id .dead).push (.arr 37 2 (xs.map eID) (some xs.length)) with lim:=h.n}:Heap).n:=Nat.le_succ _
   simp only [settle,k2,true_and]
   rw [hd,if_pos ⟨hn,hlen,hall⟩]
  have hsame:sameL ((xs.take i++x::xs.drop i).map eID) ((xs.take i++x::xs.drop i).map eID)=true:=by
   simp only [sameL,nat_beq_self,Bool.true_and]
   exact all_zip_self fun y hy=>by
    obtain ⟨z,_,rfl⟩:=List.mem_map.1 hy
    exact (dep_id z).same (by decide)
  refine ⟨.sl h.n 2 0 ((xs.take i++x::xs.drop i).map eID).length,(h.set id .dead).push (.arr 37 2 ((xs.take i++x::xs.drop i).map eID) none),?_,.arr h.n rfl (by exact get_push_new) hlim hlo,((Ext.refl hlo wf).set hi1 hlt).push,((Keep.refl _ _).set wf hg hlt).push⟩
  simp only [modeRun,show t74.mode=.split from rfl,hg,true_and,hl1,if_true]
  unfold splitRun
  have hk:(List.map visLen [DV.int .i64 (i:Int),DV.sl vid 2 0 1]).foldl (·+·) 0=1:=rfl
  rw [hk,sc1]
  simp only [List.range_one,List.all_cons,List.all_nil,sc2,hsame,Bool.and_self,if_true]
theorem q74 {h:Heap} {v:DV} {i vid:Nat} {A:Option (DV×Heap)} (hA:fc D 74 [v,.int .i64 (i:Int),.sl vid 2 0 1] h=A) (lo:Nat) (xs:List ID) (x:ID) {vety c:Nat} (ho:Own lo h v 37 2 (xs.map eID)) (gv:h.get vid=some (.arr vety 2 [eID x] (some c))) (hi:i≤xs.length) (hl:xs.length≤1000000) (wf:WF h) (hlo:lo≤h.n) (hlim:h.lim≤h.n) :
  ∃ v' h',A=some (v',h')∧Own lo h' v' 37 2 ((xs.take i++x::xs.drop i).map eID)∧Ext lo h h'∧Keep 37 h h':=by
 subst hA
 exact s74 lo h v xs i x vid vety c ho gv hi hl wf hlo hlim
theorem a114 (H:Heap) (n0:Nat) (xs:List Entry) (i:Nat) (x:Entry) (vid vety:Nat) (vcap:Option Nat) (g0:H.get n0=some (.arr 58 7 (xs.map eEntry++[.unk]) none)) (gv:H.get vid=some (.arr vety 7 [eEntry x] vcap)) (hi:i≤xs.length) (hl:xs.length≤1000000) (wf:WF H) (hlim:H.lim≤n0) (hne:vid≠n0) :
  ∃ H',goRun (ev D) t114 [.sl n0 7 0 xs.length,.int .i64 i,.sl vid 7 0 1] H=some (.sl n0 7 0 (xs.length+1),H')∧H'.get n0=some (.arr 58 7 ((xs.take i++x::xs.drop i).map eEntry) none):=by
 have hlt:=get_some_lt g0
 have w1:IntKind.i64.wrap ((xs.length:Int)+1)=(xs.length:Int)+1:=wrap64 (by omega) (by omega)
 rw [goRun_eq _ _ _ _ (by simp [t114])]
 by_cases hin:i=xs.length
 ·subst hin
  simp [t114,g0,gv]
  rw [appendD_in g0 (by simp) hlim (by simp;omega) (by decide) (by simp)]
  simp [get_set wf hlt,splice]
 ·have hin':¬((i:Int)=xs.length):=by omega
  have w2:IntKind.i64.wrap ((i:Int)+1)=(i:Int)+1:=wrap64 (by omega) (by omega)
  have hi1:i+1≤xs.length+1:=by omega
  have hi2:i+1+(xs.length-i)≤xs.length+1:=by omega
  have hi3:i+(xs.length+1-i)≤xs.length+1:=by omega
  have hi4:i≤xs.length+1:=by omega
  have hx:i<(xs.map eEntry).length:=by simp;omega
  have e1:=ins_shift (xs.map eEntry) .unk i hx
  have e2:=ins_put (xs.map eEntry) (eEntry x) i hx
  have hi5:xs.length+1≤min (i+1) xs.length+(xs.length-i):=by omega
  have hi6:i+1≤min (i+1) xs.length+(xs.length-i):=by omega
  simp only [List.length_map]at e1 e2
  simp [t114,g0,gv,hin',hi,w1,w2,e1,e2,hi5,hi6,hi1,hi2,hi3,hi4,e156,overlapsHook,hne,hlim,hlt,get_set wf,get_set wf.set]
  have e3:List.take (xs.length+1-i) [eEntry x]=[eEntry x]:=List.take_of_length_le (by simp;omega)
  rw [e3,e2]
theorem b114 (H:Heap) (n0:Nat) (xs:List Entry) (i:Nat) (x:Entry) (vid vety:Nat) (vcap:Option Nat) (g0:H.get n0=some (.arr 58 7 (xs.map eEntry) (some xs.length))) (gv:H.get vid=some (.arr vety 7 [eEntry x] vcap)) (hi:i≤xs.length) (hl:xs.length≤1000000) (wf:WF H) (hlim:H.lim≤n0) (hne:vid≠n0) :
  ∃ H',goRun (ev D) t114 [.sl n0 7 0 xs.length,.int .i64 i,.sl vid 7 0 1] H=some (.sl H.n 7 0 (xs.length+1),H')∧H'.get H.n=some (.arr 58 7 ((xs.take i++x::xs.drop i).map eEntry) none):=by
 have hlt:=get_some_lt g0
 have hvt:=get_some_lt gv
 have w1:IntKind.i64.wrap ((xs.length:Int)+1)=(xs.length:Int)+1:=wrap64 (by omega) (by omega)
 rw [goRun_eq _ _ _ _ (by simp [t114])]
 by_cases hin:i=xs.length
 ·subst hin
  simp [t114,g0,gv]
  rw [appendD_new g0 (by simp) (by simp) (by simp;omega) (by decide) (by simp)]
  simp
  rw [List.take_of_length_le (by simp)]
 ·have hin':¬((i:Int)=xs.length):=by omega
  have w2:IntKind.i64.wrap ((i:Int)+1)=(i:Int)+1:=wrap64 (by omega) (by omega)
  have w3:IntKind.i64.wrap ((xs.length:Int)+1-i)=((xs.length+1-i:Nat):Int):=by rw [wrap64 (by omega) (by omega)];omega
  have hx:i<(xs.map eEntry).length:=by simp;omega
  have hq:(xs.length:Int)<(xs.length:Int)+1:=by omega
  have hll:H.lim≤H.n:=by omega
  have hz:((xs.length+1-i:Nat):Int)≤140737488355328:=by omega
  have e1:=fun z=>ins_new1 (xs.map eEntry) z (eEntry x) i hx
  have e2:=fun z=>ins_new2 (xs.map eEntry) z (eEntry x) i hx
  have e3:i+(xs.length+1-i)=xs.length+1:=by omega
  have e4:i+(xs.length-i+1)=xs.length+1:=by omega
  have e5:i+1≤xs.length+1:=by omega
  have e6:i+1+(xs.length-i)≤xs.length+1:=by omega
  have e7:i≤xs.length+1:=by omega
  have e8:List.take (xs.length+1-i) [eEntry x]=[eEntry x]:=List.take_of_length_le (by simp;omega)
  have e9:List.take (xs.length-i) (List.drop i (List.map eEntry xs))=List.drop i (List.map eEntry xs):=List.take_of_length_le (by simp)
  simp only [List.length_map]at e1 e2
  simp [t114,g0,gv,hin',hi,w1,w2,w3,hq,hz]
  rw [appendD_new g0 (by simp;omega) (by simp;omega) (by simp;omega) (by decide) (by simp;omega)]
  simp [g0,gv,w2,hi,hlt,hvt,hlim,hll,e3,e4,e5,e6,e7,e1,e2,e8,e9,Nat.ne_of_lt hlt,Nat.ne_of_lt hvt,Nat.min_eq_left hi]
theorem s114 (lo:Nat) (h:Heap) (v:DV) (xs:List Entry) (i:Nat) (x:Entry) (vid vety c:Nat) (ho:Own lo h v 58 7 (xs.map eEntry)) (gv:h.get vid=some (.arr vety 7 [eEntry x] (some c))) (hi:i≤xs.length) (hl:xs.length≤1000000) (wf:WF h) (hlo:lo≤h.n) (hlim:h.lim≤h.n) :
  ∃ v' h',fc D 114 [v,.int .i64 i,.sl vid 7 0 1] h=some (v',h')∧Own lo h' v' 58 7 ((xs.take i++x::xs.drop i).map eEntry)∧Ext lo h h'∧Keep 58 h h':=by
 have hvt:=get_some_lt gv
 rw [e114]
 cases ho with
 | nil hv hx =>
  subst hv
  have hx0:xs=[]:=List.map_eq_nil_iff.1 hx
  subst hx0
  have hi0:i=0:=by simpa using hi
  subst hi0
  refine ⟨.sl h.n 7 0 1,h.push (.arr 58 7 [eEntry x] none),?_,.arr h.n rfl get_push_new hlim hlo,(Ext.refl hlo wf).push,(Keep.refl _ _).push⟩
  simp only [modeRun,t114]
  rw [goRun_eq _ _ _ _ (by simp)]
  simp [gv,sliceV,appendD]
 | arr id hv hg hl1 hi1 =>
  subst hv
  have hlt:=get_some_lt hg
  have hne:vid≠id:=by intro e;subst e;rw [gv]at hg;simp at hg
  have hw:WF (h.set id .dead):=wf.set
  have gv':∀o l,({(h.set id .dead).push o with lim:=l}:Heap).get vid=some (.arr vety 7 [eEntry x] (some c)):=fun o l=>by
   rw [get_lim,get_push,if_neg (by rw [set_n];omega),get_set wf hlt,if_neg hne];exact gv
  have g0:∀o l,({(h.set id .dead).push o with lim:=l}:Heap).get h.n=some o:=fun o l=>by
   rw [get_lim];exact get_push_new
  have hall:((xs.take i++x::xs.drop i).map eEntry).all (below 200 h.n)=true:=by
   rw [List.all_eq_true]
   intro y hy
   obtain ⟨z,_,rfl⟩:=List.mem_map.1 hy
   exact (dep_entry z).belowN (by decide)
  have hd:List.take (xs.length+1) (List.drop 0 ((xs.take i++x::xs.drop i).map eEntry))=(xs.take i++x::xs.drop i).map eEntry:=by
   rw [List.drop_zero,List.take_of_length_le (by simp only [List.length_map,List.length_append,List.length_take,List.length_cons,List.length_drop];omega)]
  have sc1:scnRun (ev D) t114 [.int .i64 i,.sl vid 7 0 1] id 7 0 (xs.map eEntry).length 58 (xs.map eEntry) h 1 none=some ((xs.take i++x::xs.drop i).map eEntry):=by
   obtain ⟨H',k1,k2⟩:=a114 {(h.set id .dead).push (.arr 58 7 (xs.map eEntry++[.unk]) none) with lim:=h.n} h.n xs i x vid vety (some c) (g0 _ _) (gv' _ _) hi hl hw.push (Nat.le_refl _) (by omega)
   simp only [scnRun,List.length_map,List.replicate_one]
   rw [k1]
   have hlen:0+(xs.length+1)≤((xs.take i++x::xs.drop i).map eEntry).length:=by simp;omega
   simp only [settle,k2,true_and,Nat.le_refl]
   rw [hd,if_pos ⟨hlen,hall⟩]
  have sc2:scnRun (ev D) t114 [.int .i64 i,.sl vid 7 0 1] id 7 0 (xs.map eEntry).length 58 (xs.map eEntry) h 0 (some ((xs.map eEntry).length+0))=some ((xs.take i++x::xs.drop i).map eEntry):=by
   obtain ⟨H',k1,k2⟩:=b114 {(h.set id .dead).push (.arr 58 7 (xs.map eEntry) (some xs.length)) with lim:=h.n} h.n xs i x vid vety (some c) (g0 _ _) (gv' _ _) hi hl hw.push (Nat.le_refl _) (by omega)
   simp only [scnRun,List.length_map,List.replicate_zero,List.append_nil,Nat.add_zero]
   rw [k1]
   have hlen:0+(xs.length+1)≤((xs.take i++x::xs.drop i).map eEntry).length:=by simp;omega
   have hn:h.n≤({(h.set id .dead).push (.arr 58 7 (xs.map eEntry) (some xs.length)) with lim:=h.n}:Heap).n:=Nat.le_succ _
   simp only [settle,k2,true_and]
   rw [hd,if_pos ⟨hn,hlen,hall⟩]
  have hsame:sameL ((xs.take i++x::xs.drop i).map eEntry) ((xs.take i++x::xs.drop i).map eEntry)=true:=by
   simp only [sameL,nat_beq_self,Bool.true_and]
   exact all_zip_self fun y hy=>by
    obtain ⟨z,_,rfl⟩:=List.mem_map.1 hy
    exact (dep_entry z).same (by decide)
  refine ⟨.sl h.n 7 0 ((xs.take i++x::xs.drop i).map eEntry).length,(h.set id .dead).push (.arr 58 7 ((xs.take i++x::xs.drop i).map eEntry) none),?_,.arr h.n rfl (by exact get_push_new) hlim hlo,((Ext.refl hlo wf).set hi1 hlt).push,((Keep.refl _ _).set wf hg hlt).push⟩
  simp only [modeRun,show t114.mode=.split from rfl,hg,true_and,hl1,if_true]
  unfold splitRun
  have hk:(List.map visLen [DV.int .i64 (i:Int),DV.sl vid 7 0 1]).foldl (·+·) 0=1:=rfl
  rw [hk,sc1]
  simp only [List.range_one,List.all_cons,List.all_nil,sc2,hsame,Bool.and_self,if_true]
theorem q114 {h:Heap} {v:DV} {i vid:Nat} {A:Option (DV×Heap)} (hA:fc D 114 [v,.int .i64 (i:Int),.sl vid 7 0 1] h=A) (lo:Nat) (xs:List Entry) (x:Entry) {vety c:Nat} (ho:Own lo h v 58 7 (xs.map eEntry)) (gv:h.get vid=some (.arr vety 7 [eEntry x] (some c))) (hi:i≤xs.length) (hl:xs.length≤1000000) (wf:WF h) (hlo:lo≤h.n) (hlim:h.lim≤h.n) :
  ∃ v' h',A=some (v',h')∧Own lo h' v' 58 7 ((xs.take i++x::xs.drop i).map eEntry)∧Ext lo h h'∧Keep 58 h h':=by
 subst hA
 exact s114 lo h v xs i x vid vety c ho gv hi hl wf hlo hlim
theorem a125 (H:Heap) (n0:Nat) (xs:List OwnS) (i:Nat) (x:OwnS) (vid vety:Nat) (vcap:Option Nat) (g0:H.get n0=some (.arr 60 3 (xs.map eOwn++[.unk]) none)) (gv:H.get vid=some (.arr vety 3 [eOwn x] vcap)) (hi:i≤xs.length) (hl:xs.length≤1000000) (wf:WF H) (hlim:H.lim≤n0) (hne:vid≠n0) :
  ∃ H',goRun (ev D) t125 [.sl n0 3 0 xs.length,.int .i64 i,.sl vid 3 0 1] H=some (.sl n0 3 0 (xs.length+1),H')∧H'.get n0=some (.arr 60 3 ((xs.take i++x::xs.drop i).map eOwn) none):=by
 have hlt:=get_some_lt g0
 have w1:IntKind.i64.wrap ((xs.length:Int)+1)=(xs.length:Int)+1:=wrap64 (by omega) (by omega)
 rw [goRun_eq _ _ _ _ (by simp [t125])]
 by_cases hin:i=xs.length
 ·subst hin
  simp [t125,g0,gv]
  rw [appendD_in g0 (by simp) hlim (by simp;omega) (by decide) (by simp)]
  simp [get_set wf hlt,splice]
 ·have hin':¬((i:Int)=xs.length):=by omega
  have w2:IntKind.i64.wrap ((i:Int)+1)=(i:Int)+1:=wrap64 (by omega) (by omega)
  have hi1:i+1≤xs.length+1:=by omega
  have hi2:i+1+(xs.length-i)≤xs.length+1:=by omega
  have hi3:i+(xs.length+1-i)≤xs.length+1:=by omega
  have hi4:i≤xs.length+1:=by omega
  have hx:i<(xs.map eOwn).length:=by simp;omega
  have e1:=ins_shift (xs.map eOwn) .unk i hx
  have e2:=ins_put (xs.map eOwn) (eOwn x) i hx
  have hi5:xs.length+1≤min (i+1) xs.length+(xs.length-i):=by omega
  have hi6:i+1≤min (i+1) xs.length+(xs.length-i):=by omega
  simp only [List.length_map]at e1 e2
  simp [t125,g0,gv,hin',hi,w1,w2,e1,e2,hi5,hi6,hi1,hi2,hi3,hi4,e164,overlapsHook,hne,hlim,hlt,get_set wf,get_set wf.set]
  have e3:List.take (xs.length+1-i) [eOwn x]=[eOwn x]:=List.take_of_length_le (by simp;omega)
  rw [e3,e2]
theorem b125 (H:Heap) (n0:Nat) (xs:List OwnS) (i:Nat) (x:OwnS) (vid vety:Nat) (vcap:Option Nat) (g0:H.get n0=some (.arr 60 3 (xs.map eOwn) (some xs.length))) (gv:H.get vid=some (.arr vety 3 [eOwn x] vcap)) (hi:i≤xs.length) (hl:xs.length≤1000000) (wf:WF H) (hlim:H.lim≤n0) (hne:vid≠n0) :
  ∃ H',goRun (ev D) t125 [.sl n0 3 0 xs.length,.int .i64 i,.sl vid 3 0 1] H=some (.sl H.n 3 0 (xs.length+1),H')∧H'.get H.n=some (.arr 60 3 ((xs.take i++x::xs.drop i).map eOwn) none):=by
 have hlt:=get_some_lt g0
 have hvt:=get_some_lt gv
 have w1:IntKind.i64.wrap ((xs.length:Int)+1)=(xs.length:Int)+1:=wrap64 (by omega) (by omega)
 rw [goRun_eq _ _ _ _ (by simp [t125])]
 by_cases hin:i=xs.length
 ·subst hin
  simp [t125,g0,gv]
  rw [appendD_new g0 (by simp) (by simp) (by simp;omega) (by decide) (by simp)]
  simp
  rw [List.take_of_length_le (by simp)]
 ·have hin':¬((i:Int)=xs.length):=by omega
  have w2:IntKind.i64.wrap ((i:Int)+1)=(i:Int)+1:=wrap64 (by omega) (by omega)
  have w3:IntKind.i64.wrap ((xs.length:Int)+1-i)=((xs.length+1-i:Nat):Int):=by rw [wrap64 (by omega) (by omega)];omega
  have hx:i<(xs.map eOwn).length:=by simp;omega
  have hq:(xs.length:Int)<(xs.length:Int)+1:=by omega
  have hll:H.lim≤H.n:=by omega
  have hz:((xs.length+1-i:Nat):Int)≤140737488355328:=by omega
  have e1:=fun z=>ins_new1 (xs.map eOwn) z (eOwn x) i hx
  have e2:=fun z=>ins_new2 (xs.map eOwn) z (eOwn x) i hx
  have e3:i+(xs.length+1-i)=xs.length+1:=by omega
  have e4:i+(xs.length-i+1)=xs.length+1:=by omega
  have e5:i+1≤xs.length+1:=by omega
  have e6:i+1+(xs.length-i)≤xs.length+1:=by omega
  have e7:i≤xs.length+1:=by omega
  have e8:List.take (xs.length+1-i) [eOwn x]=[eOwn x]:=List.take_of_length_le (by simp;omega)
  have e9:List.take (xs.length-i) (List.drop i (List.map eOwn xs))=List.drop i (List.map eOwn xs):=List.take_of_length_le (by simp)
  simp only [List.length_map]at e1 e2
  simp [t125,g0,gv,hin',hi,w1,w2,w3,hq,hz]
  rw [appendD_new g0 (by simp;omega) (by simp;omega) (by simp;omega) (by decide) (by simp;omega)]
  simp [g0,gv,w2,hi,hlt,hvt,hlim,hll,e3,e4,e5,e6,e7,e1,e2,e8,e9,Nat.ne_of_lt hlt,Nat.ne_of_lt hvt,Nat.min_eq_left hi]
theorem s125 (lo:Nat) (h:Heap) (v:DV) (xs:List OwnS) (i:Nat) (x:OwnS) (vid vety c:Nat) (ho:Own lo h v 60 3 (xs.map eOwn)) (gv:h.get vid=some (.arr vety 3 [eOwn x] (some c))) (hi:i≤xs.length) (hl:xs.length≤1000000) (wf:WF h) (hlo:lo≤h.n) (hlim:h.lim≤h.n) :
  ∃ v' h',fc D 125 [v,.int .i64 i,.sl vid 3 0 1] h=some (v',h')∧Own lo h' v' 60 3 ((xs.take i++x::xs.drop i).map eOwn)∧Ext lo h h'∧Keep 60 h h':=by
 have hvt:=get_some_lt gv
 rw [e125]
 cases ho with
 | nil hv hx =>
  subst hv
  have hx0:xs=[]:=List.map_eq_nil_iff.1 hx
  subst hx0
  have hi0:i=0:=by simpa using hi
  subst hi0
  refine ⟨.sl h.n 3 0 1,h.push (.arr 60 3 [eOwn x] none),?_,.arr h.n rfl get_push_new hlim hlo,(Ext.refl hlo wf).push,(Keep.refl _ _).push⟩
  simp only [modeRun,t125]
  rw [goRun_eq _ _ _ _ (by simp)]
  simp [gv,sliceV,appendD]
 | arr id hv hg hl1 hi1 =>
  subst hv
  have hlt:=get_some_lt hg
  have hne:vid≠id:=by intro e;subst e;rw [gv]at hg;simp at hg
  have hw:WF (h.set id .dead):=wf.set
  have gv':∀o l,({(h.set id .dead).push o with lim:=l}:Heap).get vid=some (.arr vety 3 [eOwn x] (some c)):=fun o l=>by
   rw [get_lim,get_push,if_neg (by rw [set_n];omega),get_set wf hlt,if_neg hne];exact gv
  have g0:∀o l,({(h.set id .dead).push o with lim:=l}:Heap).get h.n=some o:=fun o l=>by
   rw [get_lim];exact get_push_new
  have hall:((xs.take i++x::xs.drop i).map eOwn).all (below 200 h.n)=true:=by
   rw [List.all_eq_true]
   intro y hy
   obtain ⟨z,_,rfl⟩:=List.mem_map.1 hy
   exact (dep_own z).belowN (by decide)
  have hd:List.take (xs.length+1) (List.drop 0 ((xs.take i++x::xs.drop i).map eOwn))=(xs.take i++x::xs.drop i).map eOwn:=by
   rw [List.drop_zero,List.take_of_length_le (by simp only [List.length_map,List.length_append,List.length_take,List.length_cons,List.length_drop];omega)]
  have sc1:scnRun (ev D) t125 [.int .i64 i,.sl vid 3 0 1] id 3 0 (xs.map eOwn).length 60 (xs.map eOwn) h 1 none=some ((xs.take i++x::xs.drop i).map eOwn):=by
   obtain ⟨H',k1,k2⟩:=a125 {(h.set id .dead).push (.arr 60 3 (xs.map eOwn++[.unk]) none) with lim:=h.n} h.n xs i x vid vety (some c) (g0 _ _) (gv' _ _) hi hl hw.push (Nat.le_refl _) (by omega)
   simp only [scnRun,List.length_map,List.replicate_one]
   rw [k1]
   have hlen:0+(xs.length+1)≤((xs.take i++x::xs.drop i).map eOwn).length:=by simp;omega
   simp only [settle,k2,true_and,Nat.le_refl]
   rw [hd,if_pos ⟨hlen,hall⟩]
  have sc2:scnRun (ev D) t125 [.int .i64 i,.sl vid 3 0 1] id 3 0 (xs.map eOwn).length 60 (xs.map eOwn) h 0 (some ((xs.map eOwn).length+0))=some ((xs.take i++x::xs.drop i).map eOwn):=by
   obtain ⟨H',k1,k2⟩:=b125 {(h.set id .dead).push (.arr 60 3 (xs.map eOwn) (some xs.length)) with lim:=h.n} h.n xs i x vid vety (some c) (g0 _ _) (gv' _ _) hi hl hw.push (Nat.le_refl _) (by omega)
   simp only [scnRun,List.length_map,List.replicate_zero,List.append_nil,Nat.add_zero]
   rw [k1]
   have hlen:0+(xs.length+1)≤((xs.take i++x::xs.drop i).map eOwn).length:=by simp;omega
   have hn:h.n≤({(h.set id .dead).push (.arr 60 3 (xs.map eOwn) (some xs.length)) with lim:=h.n}:Heap).n:=Nat.le_succ _
   simp only [settle,k2,true_and]
   rw [hd,if_pos ⟨hn,hlen,hall⟩]
  have hsame:sameL ((xs.take i++x::xs.drop i).map eOwn) ((xs.take i++x::xs.drop i).map eOwn)=true:=by
   simp only [sameL,nat_beq_self,Bool.true_and]
   exact all_zip_self fun y hy=>by
    obtain ⟨z,_,rfl⟩:=List.mem_map.1 hy
    exact (dep_own z).same (by decide)
  refine ⟨.sl h.n 3 0 ((xs.take i++x::xs.drop i).map eOwn).length,(h.set id .dead).push (.arr 60 3 ((xs.take i++x::xs.drop i).map eOwn) none),?_,.arr h.n rfl (by exact get_push_new) hlim hlo,((Ext.refl hlo wf).set hi1 hlt).push,((Keep.refl _ _).set wf hg hlt).push⟩
  simp only [modeRun,show t125.mode=.split from rfl,hg,true_and,hl1,if_true]
  unfold splitRun
  have hk:(List.map visLen [DV.int .i64 (i:Int),DV.sl vid 3 0 1]).foldl (·+·) 0=1:=rfl
  rw [hk,sc1]
  simp only [List.range_one,List.all_cons,List.all_nil,sc2,hsame,Bool.and_self,if_true]
theorem q125 {h:Heap} {v:DV} {i vid:Nat} {A:Option (DV×Heap)} (hA:fc D 125 [v,.int .i64 (i:Int),.sl vid 3 0 1] h=A) (lo:Nat) (xs:List OwnS) (x:OwnS) {vety c:Nat} (ho:Own lo h v 60 3 (xs.map eOwn)) (gv:h.get vid=some (.arr vety 3 [eOwn x] (some c))) (hi:i≤xs.length) (hl:xs.length≤1000000) (wf:WF h) (hlo:lo≤h.n) (hlim:h.lim≤h.n) :
  ∃ v' h',A=some (v',h')∧Own lo h' v' 60 3 ((xs.take i++x::xs.drop i).map eOwn)∧Ext lo h h'∧Keep 60 h h':=by
 subst hA
 exact s125 lo h v xs i x vid vety c ho gv hi hl wf hlo hlim
theorem a195 (H:Heap) (n0:Nat) (xs:List Cons) (i:Nat) (x:Cons) (vid vety:Nat) (vcap:Option Nat) (g0:H.get n0=some (.arr 62 5 (xs.map eCons++[.unk]) none)) (gv:H.get vid=some (.arr vety 5 [eCons x] vcap)) (hi:i≤xs.length) (hl:xs.length≤1000000) (wf:WF H) (hlim:H.lim≤n0) (hne:vid≠n0) :
  ∃ H',goRun (ev D) t195 [.sl n0 5 0 xs.length,.int .i64 i,.sl vid 5 0 1] H=some (.sl n0 5 0 (xs.length+1),H')∧H'.get n0=some (.arr 62 5 ((xs.take i++x::xs.drop i).map eCons) none):=by
 have hlt:=get_some_lt g0
 have w1:IntKind.i64.wrap ((xs.length:Int)+1)=(xs.length:Int)+1:=wrap64 (by omega) (by omega)
 rw [goRun_eq _ _ _ _ (by simp [t195])]
 by_cases hin:i=xs.length
 ·subst hin
  simp [t195,g0,gv]
  rw [appendD_in g0 (by simp) hlim (by simp;omega) (by decide) (by simp)]
  simp [get_set wf hlt,splice]
 ·have hin':¬((i:Int)=xs.length):=by omega
  have w2:IntKind.i64.wrap ((i:Int)+1)=(i:Int)+1:=wrap64 (by omega) (by omega)
  have hi1:i+1≤xs.length+1:=by omega
  have hi2:i+1+(xs.length-i)≤xs.length+1:=by omega
  have hi3:i+(xs.length+1-i)≤xs.length+1:=by omega
  have hi4:i≤xs.length+1:=by omega
  have hx:i<(xs.map eCons).length:=by simp;omega
  have e1:=ins_shift (xs.map eCons) .unk i hx
  have e2:=ins_put (xs.map eCons) (eCons x) i hx
  have hi5:xs.length+1≤min (i+1) xs.length+(xs.length-i):=by omega
  have hi6:i+1≤min (i+1) xs.length+(xs.length-i):=by omega
  simp only [List.length_map]at e1 e2
  simp [t195,g0,gv,hin',hi,w1,w2,e1,e2,hi5,hi6,hi1,hi2,hi3,hi4,e209,overlapsHook,hne,hlim,hlt,get_set wf,get_set wf.set]
  have e3:List.take (xs.length+1-i) [eCons x]=[eCons x]:=List.take_of_length_le (by simp;omega)
  rw [e3,e2]
theorem b195 (H:Heap) (n0:Nat) (xs:List Cons) (i:Nat) (x:Cons) (vid vety:Nat) (vcap:Option Nat) (g0:H.get n0=some (.arr 62 5 (xs.map eCons) (some xs.length))) (gv:H.get vid=some (.arr vety 5 [eCons x] vcap)) (hi:i≤xs.length) (hl:xs.length≤1000000) (wf:WF H) (hlim:H.lim≤n0) (hne:vid≠n0) :
  ∃ H',goRun (ev D) t195 [.sl n0 5 0 xs.length,.int .i64 i,.sl vid 5 0 1] H=some (.sl H.n 5 0 (xs.length+1),H')∧H'.get H.n=some (.arr 62 5 ((xs.take i++x::xs.drop i).map eCons) none):=by
 have hlt:=get_some_lt g0
 have hvt:=get_some_lt gv
 have w1:IntKind.i64.wrap ((xs.length:Int)+1)=(xs.length:Int)+1:=wrap64 (by omega) (by omega)
 rw [goRun_eq _ _ _ _ (by simp [t195])]
 by_cases hin:i=xs.length
 ·subst hin
  simp [t195,g0,gv]
  rw [appendD_new g0 (by simp) (by simp) (by simp;omega) (by decide) (by simp)]
  simp
  rw [List.take_of_length_le (by simp)]
 ·have hin':¬((i:Int)=xs.length):=by omega
  have w2:IntKind.i64.wrap ((i:Int)+1)=(i:Int)+1:=wrap64 (by omega) (by omega)
  have w3:IntKind.i64.wrap ((xs.length:Int)+1-i)=((xs.length+1-i:Nat):Int):=by rw [wrap64 (by omega) (by omega)];omega
  have hx:i<(xs.map eCons).length:=by simp;omega
  have hq:(xs.length:Int)<(xs.length:Int)+1:=by omega
  have hll:H.lim≤H.n:=by omega
  have hz:((xs.length+1-i:Nat):Int)≤140737488355328:=by omega
  have e1:=fun z=>ins_new1 (xs.map eCons) z (eCons x) i hx
  have e2:=fun z=>ins_new2 (xs.map eCons) z (eCons x) i hx
  have e3:i+(xs.length+1-i)=xs.length+1:=by omega
  have e4:i+(xs.length-i+1)=xs.length+1:=by omega
  have e5:i+1≤xs.length+1:=by omega
  have e6:i+1+(xs.length-i)≤xs.length+1:=by omega
  have e7:i≤xs.length+1:=by omega
  have e8:List.take (xs.length+1-i) [eCons x]=[eCons x]:=List.take_of_length_le (by simp;omega)
  have e9:List.take (xs.length-i) (List.drop i (List.map eCons xs))=List.drop i (List.map eCons xs):=List.take_of_length_le (by simp)
  simp only [List.length_map]at e1 e2
  simp [t195,g0,gv,hin',hi,w1,w2,w3,hq,hz]
  rw [appendD_new g0 (by simp;omega) (by simp;omega) (by simp;omega) (by decide) (by simp;omega)]
  simp [g0,gv,w2,hi,hlt,hvt,hlim,hll,e3,e4,e5,e6,e7,e1,e2,e8,e9,Nat.ne_of_lt hlt,Nat.ne_of_lt hvt,Nat.min_eq_left hi]
theorem s195 (lo:Nat) (h:Heap) (v:DV) (xs:List Cons) (i:Nat) (x:Cons) (vid vety c:Nat) (ho:Own lo h v 62 5 (xs.map eCons)) (gv:h.get vid=some (.arr vety 5 [eCons x] (some c))) (hi:i≤xs.length) (hl:xs.length≤1000000) (wf:WF h) (hlo:lo≤h.n) (hlim:h.lim≤h.n) :
  ∃ v' h',fc D 195 [v,.int .i64 i,.sl vid 5 0 1] h=some (v',h')∧Own lo h' v' 62 5 ((xs.take i++x::xs.drop i).map eCons)∧Ext lo h h'∧Keep 62 h h':=by
 have hvt:=get_some_lt gv
 rw [e195]
 cases ho with
 | nil hv hx =>
  subst hv
  have hx0:xs=[]:=List.map_eq_nil_iff.1 hx
  subst hx0
  have hi0:i=0:=by simpa using hi
  subst hi0
  refine ⟨.sl h.n 5 0 1,h.push (.arr 62 5 [eCons x] none),?_,.arr h.n rfl get_push_new hlim hlo,(Ext.refl hlo wf).push,(Keep.refl _ _).push⟩
  simp only [modeRun,t195]
  rw [goRun_eq _ _ _ _ (by simp)]
  simp [gv,sliceV,appendD]
 | arr id hv hg hl1 hi1 =>
  subst hv
  have hlt:=get_some_lt hg
  have hne:vid≠id:=by intro e;subst e;rw [gv]at hg;simp at hg
  have hw:WF (h.set id .dead):=wf.set
  have gv':∀o l,({(h.set id .dead).push o with lim:=l}:Heap).get vid=some (.arr vety 5 [eCons x] (some c)):=fun o l=>by
   rw [get_lim,get_push,if_neg (by rw [set_n];omega),get_set wf hlt,if_neg hne];exact gv
  have g0:∀o l,({(h.set id .dead).push o with lim:=l}:Heap).get h.n=some o:=fun o l=>by
   rw [get_lim];exact get_push_new
  have hall:((xs.take i++x::xs.drop i).map eCons).all (below 200 h.n)=true:=by
   rw [List.all_eq_true]
   intro y hy
   obtain ⟨z,_,rfl⟩:=List.mem_map.1 hy
   exact (dep_cons z).belowN (by decide)
  have hd:List.take (xs.length+1) (List.drop 0 ((xs.take i++x::xs.drop i).map eCons))=(xs.take i++x::xs.drop i).map eCons:=by
   rw [List.drop_zero,List.take_of_length_le (by simp only [List.length_map,List.length_append,List.length_take,List.length_cons,List.length_drop];omega)]
  have sc1:scnRun (ev D) t195 [.int .i64 i,.sl vid 5 0 1] id 5 0 (xs.map eCons).length 62 (xs.map eCons) h 1 none=some ((xs.take i++x::xs.drop i).map eCons):=by
   obtain ⟨H',k1,k2⟩:=a195 {(h.set id .dead).push (.arr 62 5 (xs.map eCons++[.unk]) none) with lim:=h.n} h.n xs i x vid vety (some c) (g0 _ _) (gv' _ _) hi hl hw.push (Nat.le_refl _) (by omega)
   simp only [scnRun,List.length_map,List.replicate_one]
   rw [k1]
   have hlen:0+(xs.length+1)≤((xs.take i++x::xs.drop i).map eCons).length:=by simp;omega
   simp only [settle,k2,true_and,Nat.le_refl]
   rw [hd,if_pos ⟨hlen,hall⟩]
  have sc2:scnRun (ev D) t195 [.int .i64 i,.sl vid 5 0 1] id 5 0 (xs.map eCons).length 62 (xs.map eCons) h 0 (some ((xs.map eCons).length+0))=some ((xs.take i++x::xs.drop i).map eCons):=by
   obtain ⟨H',k1,k2⟩:=b195 {(h.set id .dead).push (.arr 62 5 (xs.map eCons) (some xs.length)) with lim:=h.n} h.n xs i x vid vety (some c) (g0 _ _) (gv' _ _) hi hl hw.push (Nat.le_refl _) (by omega)
   simp only [scnRun,List.length_map,List.replicate_zero,List.append_nil,Nat.add_zero]
   rw [k1]
   have hlen:0+(xs.length+1)≤((xs.take i++x::xs.drop i).map eCons).length:=by simp;omega
   have hn:h.n≤({(h.set id .dead).push (.arr 62 5 (xs.map eCons) (some xs.length)) with lim:=h.n}:Heap).n:=Nat.le_succ _
   simp only [settle,k2,true_and]
   rw [hd,if_pos ⟨hn,hlen,hall⟩]
  have hsame:sameL ((xs.take i++x::xs.drop i).map eCons) ((xs.take i++x::xs.drop i).map eCons)=true:=by
   simp only [sameL,nat_beq_self,Bool.true_and]
   exact all_zip_self fun y hy=>by
    obtain ⟨z,_,rfl⟩:=List.mem_map.1 hy
    exact (dep_cons z).same (by decide)
  refine ⟨.sl h.n 5 0 ((xs.take i++x::xs.drop i).map eCons).length,(h.set id .dead).push (.arr 62 5 ((xs.take i++x::xs.drop i).map eCons) none),?_,.arr h.n rfl (by exact get_push_new) hlim hlo,((Ext.refl hlo wf).set hi1 hlt).push,((Keep.refl _ _).set wf hg hlt).push⟩
  simp only [modeRun,show t195.mode=.split from rfl,hg,true_and,hl1,if_true]
  unfold splitRun
  have hk:(List.map visLen [DV.int .i64 (i:Int),DV.sl vid 5 0 1]).foldl (·+·) 0=1:=rfl
  rw [hk,sc1]
  simp only [List.range_one,List.all_cons,List.all_nil,sc2,hsame,Bool.and_self,if_true]
theorem q195 {h:Heap} {v:DV} {i vid:Nat} {A:Option (DV×Heap)} (hA:fc D 195 [v,.int .i64 (i:Int),.sl vid 5 0 1] h=A) (lo:Nat) (xs:List Cons) (x:Cons) {vety c:Nat} (ho:Own lo h v 62 5 (xs.map eCons)) (gv:h.get vid=some (.arr vety 5 [eCons x] (some c))) (hi:i≤xs.length) (hl:xs.length≤1000000) (wf:WF h) (hlo:lo≤h.n) (hlim:h.lim≤h.n) :
  ∃ v' h',A=some (v',h')∧Own lo h' v' 62 5 ((xs.take i++x::xs.drop i).map eCons)∧Ext lo h h'∧Keep 62 h h':=by
 subst hA
 exact s195 lo h v xs i x vid vety c ho gv hi hl wf hlo hlim
end Go.Dm.Tc
/-
What functions of the statements' books compute: are two rows the same?
-/
namespace Go.Dm.Tc
theorem id_ne {x y:ID} (h:x≠y):(x.client == y.client && x.seq == y.seq)=false:=by
 obtain ⟨a,b⟩:=x
 obtain ⟨c,d⟩:=y
 simp only [ne_eq,ID.mk.injEq,not_and]at h
 by_cases h1:a=c
 ·simp [h1,h h1]
 ·simp [h1]
end Go.Dm.Tc
/-
What functions of the library compute,part 6: an element taken out of a row of the call's own;elements taken out by a function.
-/
namespace Go.Dm.Tc
def lenOf:DV→Option Nat
 | .nsl=>some 0
 | .sl _ _ _ len=>some len
 | .isl _ _ xs=>some xs.length
 | _=>none
def slice3V (x lo hi mx:DV):Option DV :=
 match lenOf x with
 | some len=>match boundV (some mx) 0 len with
  | some m=>match boundV (some hi) 0 m with
   | some b=>match boundV (some lo) 0 b with
    | some _=>some .unk
    | none=>none
   | none=>none
  | none=>none
 | none=>none
def clearV (h:Heap) (sz:Nat) (z x:DV):Option (DV×Heap) :=
 match x with
 | .nsl=>some (.tup [],h)
 | .isl _ _ []=>some (.tup [],h)
 | .sl id sz' off len=>if len=0 then some (.tup [],h) else match copyD h sz (.sl id sz' off len) (List.replicate len z) with|some (_,h')=>some (.tup [],h')|none=>none
 | _=>none
theorem on_slice3 (c:Nat→List DV→Heap→Option (DV×Heap)) (h:Heap) (env:Env) (x lo hi mx:Opd):oneOp c (.slice3 x lo hi mx) env h=callR h (slice3V (x.eval env) (lo.eval env) (hi.eval env) (mx.eval env)):=by
 simp only [oneOp,stepOp,slice3V,bound_eq,Option.map_some]
 cases x.eval env<;>try rfl
 all_goals
  simp only [lenOf]
  generalize boundV (some (mx.eval env)) 0 _=A
  cases A with
  | none=>rfl
  | some m =>
   simp only
   cases boundV (some (hi.eval env)) 0 m with
   | none=>rfl
   | some b =>
    simp only
    cases boundV (some (lo.eval env)) 0 b with
    | none=>rfl
    | some a=>rfl
theorem on_clear (c:Nat→List DV→Heap→Option (DV×Heap)) (h:Heap) (env:Env) (sz:Nat) (z:DV) (x:Opd):oneOp c (.clear sz z x) env h=clearV h sz z (x.eval env):=by
 simp only [oneOp,stepOp,clearV]
 cases x.eval env<;>rfl
theorem slice3V_sl {id sz off len lo hi:Nat} (h1:lo≤hi) (h2:hi≤len):slice3V (.sl id sz off len) (.int .i64 (lo:Int)) (.int .i64 (hi:Int)) (.int .i64 (len:Int))=some .unk:=by
 simp only [slice3V,lenOf]
 rw [boundV_nat _ _ _ _ (Nat.le_refl _)]
 simp only
 rw [boundV_nat _ _ _ _ h2]
 simp only
 rw [boundV_nat _ _ _ _ h1]
theorem clearV_sl {h:Heap} {id ety sz off len:Nat} {xs:List DV} {cap:Option Nat} {z:DV} (hg:h.get id=some (.arr ety sz xs cap)) (hl:off+len≤xs.length) (hlim:h.lim≤id) (h0:len≠0) :
  clearV h sz z (.sl id sz off len)=some (.tup [],h.set id (.arr ety sz (splice xs (List.replicate len z) off) cap)):=by
 simp [clearV,h0,hg,hl,hlim]
theorem del_in (X:List DV) (i:Nat) (hi:i+1<X.length):splice X (X.drop (i+1)) i=(X.take i++X.drop (i+1))++X.drop (X.length-1):=by
 unfold splice
 rw [List.length_drop]
 congr 2
 omega
theorem splice_end (A B ys:List DV):splice (A++B) ys A.length=A++(ys++B.drop ys.length):=by
 unfold splice
 rw [List.take_left' rfl,List.append_assoc,List.drop_append]
 simp
theorem s116 (lo:Nat) (h:Heap) (v:DV) (xs:List Entry) (i:Nat) (ho:Own lo h v 58 7 (xs.map eEntry)) (hi:i<xs.length) (hl:xs.length≤1000000) (wf:WF h) (hlo:lo≤h.n) :
  ∃ v' h',fc D 116 [v,.int .i64 (i:Int),.int .i64 ((i:Int)+1)] h=some (v',h')∧OwnR lo h' v' 58 7 ((xs.take i++xs.drop (i+1)).map eEntry)∧Ext lo h h'∧Keep 58 h h':=by
 rw [e116]
 cases ho with
 | nil hv hx =>
  have hx0:xs=[]:=List.map_eq_nil_iff.1 hx
  subst hx0
  simp at hi
 | arr id hv hg hl1 hi1 =>
  subst hv
  have hlt:=get_some_lt hg
  have hb3:slice3V (.sl id 7 0 xs.length) (.int .i64 (i:Int)) (.int .i64 ((i:Int)+1)) (.int .i64 (xs.length:Int))=some .unk:=slice3V_sl (hi:=i+1) (by omega) (by omega)
  have hne:¬((i:Int)=(i:Int)+1):=by omega
  rw [goRun_eq _ _ _ _ (by simp [t116])]
  by_cases hend:i+1=xs.length
  ·have h1:i+1≤xs.length:=by omega
   have e2:xs.length-(i+1)=0:=by omega
   have e3:List.drop (i+1) xs=[]:=List.drop_eq_nil_of_le (by omega)
   have e4:xs.length-i=1:=by omega
   have hn0:(i:Int)≤(xs.length:Int):=by omega
   have hcl:∀z,clearV h 7 z (.sl id 7 i 1)=some (.tup [],h.set id (.arr 58 7 (splice (xs.map eEntry) [z] i) none)):=fun z=>clearV_sl (len:=1) hg (by simp;omega) hl1 (by decide)
   have hap:appendD h 58 7 72 (.sl id 7 0 i) []=some (.sl id 7 0 i,h):=rfl
   have hi':i≤xs.length:=by omega
   simp [t116,on_slice3,on_clear,hb3,hne,hg,h1,e2,e3,e4,hcl,hap,hi']
   refine ⟨_,_,⟨rfl,rfl⟩,.arr id [(.agg [.int .i64 0,.int .i64 0,.int .i64 0,.int .i64 0,.nsl,.int .i64 0,.bool false])] none (by simp;omega) ?_ hl1 hi1,(Ext.refl hlo wf).set hi1 hlt,(Keep.refl _ _).set wf hg hlt⟩
   rw [get_set wf hlt,if_pos rfl]
   simp [splice]
   omega
  ·have h1:i+1≤xs.length:=by omega
   have h2:i+1<(xs.map eEntry).length:=by simp;omega
   have e1:List.take (xs.length-(i+1)) (List.drop (i+1) (List.map eEntry xs))=List.drop (i+1) (List.map eEntry xs):=List.take_of_length_le (by simp)
   have e5:i+1+(xs.length-(i+1))≤xs.length:=by omega
   have e6:i+(xs.length-(i+1))=xs.length-1:=by omega
   have e7:xs.length-(xs.length-1)=1:=by omega
   have hi':i≤xs.length:=by omega
   have hq:xs.length-1≤xs.length:=by omega
   obtain ⟨H,hH⟩:∃ H,H=h.set id (.arr 58 7 ((xs.map eEntry).take i++(xs.map eEntry).drop (i+1)++(xs.map eEntry).drop (xs.length-1)) none):=⟨_,rfl⟩
   have hap:appendD h 58 7 72 (.sl id 7 0 i) (List.drop (i+1) (List.map eEntry xs))=some (.sl id 7 0 (xs.length-1),H):=by
    rw [appendD_in hg (by simp;omega) hl1 (by simp;omega) (by decide) (by simp;omega),del_in _ _ h2,hH]
    simp [e6]
   have gH:H.get id=some (.arr 58 7 ((xs.map eEntry).take i++(xs.map eEntry).drop (i+1)++(xs.map eEntry).drop (xs.length-1)) none):=by rw [hH,get_set wf hlt,if_pos rfl]
   have lH:H.lim=h.lim:=by rw [hH];rfl
   have wH:WF H:=by rw [hH];exact wf.set
   have nH:H.n=h.n:=by rw [hH];rfl
   have hln:(List.take i (xs.map eEntry)++List.drop (i+1) (xs.map eEntry)).length=xs.length-1:=by simp;omega
   have hcl:∀z,clearV H 7 z (.sl id 7 (xs.length-1) 1)=some (.tup [],H.set id (.arr 58 7 (splice ((xs.map eEntry).take i++(xs.map eEntry).drop (i+1)++(xs.map eEntry).drop (xs.length-1)) [z] (xs.length-1)) none)):=fun z=>clearV_sl (len:=1) gH (by simp;omega) (by rw [lH];exact hl1) (by decide)
   have hb1:IntKind.i64.wrap ((xs.length-1:Nat):Int)=((xs.length-1:Nat):Int):=wrap64 (by omega) (by omega)
   have hsl:sliceO 7 7 id 0 (xs.length-1) (some (.int .i64 ((xs.length-1:Nat):Int))) (some (.int .i64 ((xs.length:Nat):Int))) (H.get id)=some (.sl id 7 (xs.length-1) 1):=by
    have hL:(List.take i (xs.map eEntry)++List.drop (i+1) (xs.map eEntry)++List.drop (xs.length-1) (xs.map eEntry)).length=xs.length:=by simp;omega
    rw [gH,sliceO_some,hL,if_pos ⟨rfl,rfl,by omega⟩,boundV_nat _ _ _ _ (by omega),someSl_some,boundV_nat _ _ _ _ (by omega),slOf_some]
    simp [e7]
   simp [t116,on_slice3,on_clear,hb3,hne,hg,h1,e1,hap,hi',hsl,hcl]
   refine ⟨_,_,⟨rfl,rfl⟩,.arr id [(.agg [.int .i64 0,.int .i64 0,.int .i64 0,.int .i64 0,.nsl,.int .i64 0,.bool false])] none (by simp;omega) ?_ ?_ hi1,?_,?_⟩
   ·rw [get_set wH (by rw [nH];exact hlt),if_pos rfl]
    have:=splice_end (List.take i (xs.map eEntry)++List.drop (i+1) (xs.map eEntry)) (List.drop (xs.length-1) (xs.map eEntry)) [(.agg [.int .i64 0,.int .i64 0,.int .i64 0,.int .i64 0,.nsl,.int .i64 0,.bool false])]
    rw [hln]at this
    rw [List.append_assoc]at this
    rw [this]
    simp
    omega
   ·show H.lim≤id
    rw [lH];exact hl1
   ·rw [hH]
    exact ((Ext.refl hlo wf).set hi1 hlt).set hi1 (by exact hlt)
   ·rw [hH]
    exact ((Keep.refl _ _).set wf hg hlt).set wf.set hg (by exact hlt)
theorem s128 (lo:Nat) (h:Heap) (v:DV) (xs:List OwnS) (i:Nat) (ho:Own lo h v 60 3 (xs.map eOwn)) (hi:i<xs.length) (hl:xs.length≤1000000) (wf:WF h) (hlo:lo≤h.n) :
  ∃ v' h',fc D 128 [v,.int .i64 (i:Int),.int .i64 ((i:Int)+1)] h=some (v',h')∧OwnR lo h' v' 60 3 ((xs.take i++xs.drop (i+1)).map eOwn)∧Ext lo h h'∧Keep 60 h h':=by
 rw [e128]
 cases ho with
 | nil hv hx =>
  have hx0:xs=[]:=List.map_eq_nil_iff.1 hx
  subst hx0
  simp at hi
 | arr id hv hg hl1 hi1 =>
  subst hv
  have hlt:=get_some_lt hg
  have hb3:slice3V (.sl id 3 0 xs.length) (.int .i64 (i:Int)) (.int .i64 ((i:Int)+1)) (.int .i64 (xs.length:Int))=some .unk:=slice3V_sl (hi:=i+1) (by omega) (by omega)
  have hne:¬((i:Int)=(i:Int)+1):=by omega
  rw [goRun_eq _ _ _ _ (by simp [t128])]
  by_cases hend:i+1=xs.length
  ·have h1:i+1≤xs.length:=by omega
   have e2:xs.length-(i+1)=0:=by omega
   have e3:List.drop (i+1) xs=[]:=List.drop_eq_nil_of_le (by omega)
   have e4:xs.length-i=1:=by omega
   have hn0:(i:Int)≤(xs.length:Int):=by omega
   have hcl:∀z,clearV h 3 z (.sl id 3 i 1)=some (.tup [],h.set id (.arr 60 3 (splice (xs.map eOwn) [z] i) none)):=fun z=>clearV_sl (len:=1) hg (by simp;omega) hl1 (by decide)
   have hap:appendD h 60 3 40 (.sl id 3 0 i) []=some (.sl id 3 0 i,h):=rfl
   have hi':i≤xs.length:=by omega
   simp [t128,on_slice3,on_clear,hb3,hne,hg,h1,e2,e3,e4,hcl,hap,hi']
   refine ⟨_,_,⟨rfl,rfl⟩,.arr id [(.agg [.int .i64 0,.int .i64 0,.nsl])] none (by simp;omega) ?_ hl1 hi1,(Ext.refl hlo wf).set hi1 hlt,(Keep.refl _ _).set wf hg hlt⟩
   rw [get_set wf hlt,if_pos rfl]
   simp [splice]
   omega
  ·have h1:i+1≤xs.length:=by omega
   have h2:i+1<(xs.map eOwn).length:=by simp;omega
   have e1:List.take (xs.length-(i+1)) (List.drop (i+1) (List.map eOwn xs))=List.drop (i+1) (List.map eOwn xs):=List.take_of_length_le (by simp)
   have e5:i+1+(xs.length-(i+1))≤xs.length:=by omega
   have e6:i+(xs.length-(i+1))=xs.length-1:=by omega
   have e7:xs.length-(xs.length-1)=1:=by omega
   have hi':i≤xs.length:=by omega
   have hq:xs.length-1≤xs.length:=by omega
   obtain ⟨H,hH⟩:∃ H,H=h.set id (.arr 60 3 ((xs.map eOwn).take i++(xs.map eOwn).drop (i+1)++(xs.map eOwn).drop (xs.length-1)) none):=⟨_,rfl⟩
   have hap:appendD h 60 3 40 (.sl id 3 0 i) (List.drop (i+1) (List.map eOwn xs))=some (.sl id 3 0 (xs.length-1),H):=by
    rw [appendD_in hg (by simp;omega) hl1 (by simp;omega) (by decide) (by simp;omega),del_in _ _ h2,hH]
    simp [e6]
   have gH:H.get id=some (.arr 60 3 ((xs.map eOwn).take i++(xs.map eOwn).drop (i+1)++(xs.map eOwn).drop (xs.length-1)) none):=by rw [hH,get_set wf hlt,if_pos rfl]
   have lH:H.lim=h.lim:=by rw [hH];rfl
   have wH:WF H:=by rw [hH];exact wf.set
   have nH:H.n=h.n:=by rw [hH];rfl
   have hln:(List.take i (xs.map eOwn)++List.drop (i+1) (xs.map eOwn)).length=xs.length-1:=by simp;omega
   have hcl:∀z,clearV H 3 z (.sl id 3 (xs.length-1) 1)=some (.tup [],H.set id (.arr 60 3 (splice ((xs.map eOwn).take i++(xs.map eOwn).drop (i+1)++(xs.map eOwn).drop (xs.length-1)) [z] (xs.length-1)) none)):=fun z=>clearV_sl (len:=1) gH (by simp;omega) (by rw [lH];exact hl1) (by decide)
   have hb1:IntKind.i64.wrap ((xs.length-1:Nat):Int)=((xs.length-1:Nat):Int):=wrap64 (by omega) (by omega)
   have hsl:sliceO 3 3 id 0 (xs.length-1) (some (.int .i64 ((xs.length-1:Nat):Int))) (some (.int .i64 ((xs.length:Nat):Int))) (H.get id)=some (.sl id 3 (xs.length-1) 1):=by
    have hL:(List.take i (xs.map eOwn)++List.drop (i+1) (xs.map eOwn)++List.drop (xs.length-1) (xs.map eOwn)).length=xs.length:=by simp;omega
    rw [gH,sliceO_some,hL,if_pos ⟨rfl,rfl,by omega⟩,boundV_nat _ _ _ _ (by omega),someSl_some,boundV_nat _ _ _ _ (by omega),slOf_some]
    simp [e7]
   simp [t128,on_slice3,on_clear,hb3,hne,hg,h1,e1,hap,hi',hsl,hcl]
   refine ⟨_,_,⟨rfl,rfl⟩,.arr id [(.agg [.int .i64 0,.int .i64 0,.nsl])] none (by simp;omega) ?_ ?_ hi1,?_,?_⟩
   ·rw [get_set wH (by rw [nH];exact hlt),if_pos rfl]
    have:=splice_end (List.take i (xs.map eOwn)++List.drop (i+1) (xs.map eOwn)) (List.drop (xs.length-1) (xs.map eOwn)) [(.agg [.int .i64 0,.int .i64 0,.nsl])]
    rw [hln]at this
    rw [List.append_assoc]at this
    rw [this]
    simp
    omega
   ·show H.lim≤id
    rw [lH];exact hl1
   ·rw [hH]
    exact ((Ext.refl hlo wf).set hi1 hlt).set hi1 (by exact hlt)
   ·rw [hH]
    exact ((Keep.refl _ _).set wf hg hlt).set wf.set hg (by exact hlt)
end Go.Dm.Tc
/-
What functions of the library compute,part 7: elements taken out by a function.
-/
namespace Go.Dm.Tc
end Go.Dm.Tc
/-
What functions of the program compute,part 1: how advertisements are ordered and found.
-/
namespace Go.Dm.Tc
theorem s183 (a:Int):pcF D t183 [.int .i64 a]=some (.bool false):=by
 unfold pcF
 rw [goRun_eq _ _ _ _ (by simp [t183])]
 simp [t183]
def cmpI (a b:Int):Int:=if a<b then -1 else if b<a then 1 else 0
theorem s148 (a b:Int):pcF D t148 [.int .i64 a,.int .i64 b]=some (.int .i64 (cmpI a b)):=by
 unfold pcF
 rw [goRun_eq _ _ _ _ (by simp [t148])]
 by_cases h1:a<b
 ·simp [t148,e183,s183,h1,cmpI]
 ·by_cases h2:b<a
  ·simp [t148,e183,s183,h1,h2,cmpI]
  ·simp [t148,e183,s183,h1,h2,cmpI]
def orI (a b:Int):Int:=if a=0 then b else a
theorem s100 (t:Bool) (a b:Int):pcF D t100 [.isl t 1 [.int .i64 a,.int .i64 b]]=some (.int .i64 (orI a b)):=by
 unfold pcF
 rw [goRun_eq _ _ _ _ (by simp [t100])]
 simp [t100]
 rw [run_loop_of t100l0.eq_1]
 by_cases h1:a=0
 ·simp [h1,orI,indexAddrV,asI]
  rw [run_loop_of t100l0.eq_1]
  by_cases h2:b=0
  ·simp [h2,indexAddrV,asI]
   rw [run_loop_of t100l0.eq_1]
   simp [t100k0]
  ·simp [h2,indexAddrV,asI]
 ·simp [h1,orI,indexAddrV,asI]
def cmpID (a b:ID):Int:=orI (cmpI a.client b.client) (cmpI a.seq b.seq)
theorem s101 (a b c d:Int):pcF D t101 [.agg [.int .i64 a,.int .i64 b],.agg [.int .i64 c,.int .i64 d]]=some (.int .i64 (cmpID ⟨a,b⟩ ⟨c,d⟩)):=by
 unfold pcF
 rw [goRun_eq _ _ _ _ (by simp [t101])]
 simp [t101,e148,s148,e100,mkIsl,s100,cmpID]
def ltID (a b:ID):Bool:=decide (cmpID a b<0)
theorem s56 (a b c d:Int):pcF D t56 [.agg [.int .i64 a,.int .i64 b],.agg [.int .i64 c,.int .i64 d]]=some (.bool (ltID ⟨a,b⟩ ⟨c,d⟩)):=by
 unfold pcF
 rw [goRun_eq _ _ _ _ (by simp [t56])]
 simp [t56,e101,s101,ltID]
theorem s141 (a b:Int) (p:Pred) (q c d:Int):pcF D t141 [.agg [.int .i64 a,.int .i64 b,ePred p,.int .i64 q],.agg [.int .i64 c,.int .i64 d]]=some (.int .i64 (cmpID ⟨a,b⟩ ⟨c,d⟩)):=by
 unfold pcF
 rw [goRun_eq _ _ _ _ (by simp [t141])]
 simp [t141,e101,s101]
def Rising (l:List ID):Prop:=l.Pairwise fun a b=>cmpID a b<0
theorem cmpID_lt {a b:ID}:cmpID a b<0↔a.client<b.client∨a.client=b.client∧a.seq<b.seq:=by
 unfold cmpID orI cmpI
 split<;>split<;>(try split)<;>(try split)<;>omega
theorem cmpID_eq {a b:ID}:cmpID a b=0↔a=b:=by
 cases a;cases b
 simp only [ID.mk.injEq]
 unfold cmpID orI cmpI
 simp only
 split<;>split<;>(try split)<;>(try split)<;>omega
theorem cmpID_trans {a b c:ID} (h1:cmpID a b<0) (h2:cmpID b c<0):cmpID a c<0:=by
 rw [cmpID_lt]at *;omega
theorem cmpID_tri (a b:ID):cmpID a b<0∨a=b∨cmpID b a<0:=by
 rw [cmpID_lt,cmpID_lt]
 cases a;cases b
 simp only [ID.mk.injEq]
 omega
theorem mono_of_rising {α:Type} {key:α→ID} {xs:List α} (h:Rising (xs.map key)) (x:ID):∀i j (hi:i<xs.length) (hj:j<xs.length),i≤j→cmpID (key xs[j]) x<0→cmpID (key xs[i]) x<0:=by
 intro i j hi hj hij hlt
 rcases Nat.lt_or_eq_of_le hij with hl|rfl
 ·have:=List.pairwise_iff_getElem.1 h i j (by simpa using hi) (by simpa using hj) hl
  simp only [List.getElem_map]at this
  exact cmpID_trans this hlt
 ·exact hlt
theorem s71 (x0 x1 x2 x4 x5:DV) (t:Bool) (l:List ID) (c d:Int) (hr:Rising l) (hl:l.length≤1000000) :
  pcF D t71 [.agg [x0,x1,x2,eL t 2 eID l,x4,x5],.agg [.int .i64 c,.int .i64 d]]=some (.tup [.int .i64 (lowIdx (fun a=>cmpID a ⟨c,d⟩) l),.bool (hitAt (fun a=>cmpID a ⟨c,d⟩) l)]):=by
 have hb:=s139 t l c d 101 [] (fun a=>cmpID a ⟨c,d⟩) (fun x _ h=>by simp [eID,e101,s101]) hl (by
  have:=mono_of_rising (key:=fun a:ID=>a) (xs:=l) (by simpa using hr) ⟨c,d⟩
  exact this)
 unfold pcF
 rw [goRun_eq _ _ _ _ (by simp [t71])]
 simp [t71,e139,hb,resultsOf]
theorem s72 (x0 x1 x3 x4 x5:DV) (t:Bool) (l:List Advert) (c d:Int) (hr:Rising (l.map (·.id))) (hl:l.length≤1000000) :
  pcF D t72 [.agg [x0,x1,eL t 4 eAdvert l,x3,x4,x5],.agg [.int .i64 c,.int .i64 d]]=some (.tup [.int .i64 (lowIdx (fun a=>cmpID a.id ⟨c,d⟩) l),.bool (hitAt (fun a=>cmpID a.id ⟨c,d⟩) l)]):=by
 have hb:=s140 t l c d 141 [] (fun a=>cmpID a.id ⟨c,d⟩) (fun x _ h=>by simp [eAdvert,e141,s141]) hl (mono_of_rising hr ⟨c,d⟩)
 unfold pcF
 rw [goRun_eq _ _ _ _ (by simp [t72])]
 simp [t72,e140,hb,resultsOf]
end Go.Dm.Tc
/-
What functions of the program compute,part 2: a broker with rows of its own;an advertisement learned.
-/
namespace Go.Dm.Tc
theorem s70 (h:Heap) (me:Int) (t1 t2 t3 t4 t5:Bool) (near:List Int) (adv:List Advert) (seen:List ID) (ent:List Entry) (own:List OwnS)
  (l1:near.length≤1000000) (l2:adv.length≤1000000) (l3:seen.length≤1000000) (l4:ent.length≤1000000) (l5:own.length≤1000000) (wf:WF h) (hlim:h.lim≤h.n) :
  ∃ v1 v2 v3 v4 v5 h',fc D 70 [.agg [.int .i64 me,eL t1 1 cInt near,eL t2 4 eAdvert adv,eL t3 2 eID seen,eL t4 7 eEntry ent,eL t5 3 eOwn own]] h=some (.agg [.int .i64 me,v1,v2,v3,v4,v5],h') ∧
   Own h.n h' v1 3 1 (near.map cInt)∧Own h.n h' v2 42 4 (adv.map eAdvert)∧Own h.n h' v3 37 2 (seen.map eID)∧Own h.n h' v4 58 7 (ent.map eEntry)∧Own h.n h' v5 60 3 (own.map eOwn)∧Ext h.n h h':=by
 rw [e70,goRun_eq _ _ _ _ (by simp [t70])]
 have hm:max (h.n+1+1) h.lim=h.n+2:=by omega
 simp [t70,e64,hm]
 generalize hA:cloneHook _ _ _ _ _=A
 obtain ⟨v1,H1,rfl,o1,x1,y1⟩:=clone_wl (lo:=h.n+2) hA (elems_eL ..) wf.push.push (by simp) (by simp) (by simp;omega) (by simp;omega) (by decide)
 have hx0:Ext h.n h ((h.push (.arr 29 6 [.agg [.int .i64 me,eL t1 1 cInt near,eL t2 4 eAdvert adv,eL t3 2 eID seen,eL t4 7 eEntry ent,eL t5 3 eOwn own]] (some 1))).push (.arr 29 6 [.agg [.int .i64 0,.nsl,.nsl,.nsl,.nsl,.nsl]] (some 1))):=(Ext.refl (Nat.le_refl _) wf).push.push
 have z1:=hx0.trans (x1.lower (by omega:h.n≤h.n+2))
 clear hA
 simp at x1 y1 z1 o1
 generalize hK1:wl H1 _=K1 at *
 have a1:=x1.get h.n (by omega)
 have b1:=x1.get (h.n+1) (by omega)
 have q1:=x1.lim
 have w1:=x1.wf
 have n1:=x1.le
 simp at a1 b1 q1
 simp [hK1,a1,q1,hm,e137]
 generalize hA:cloneHook _ _ _ _ _=A
 obtain ⟨v2,H2,rfl,o2,x2,y2⟩:=clone_wl (lo:=h.n+2) hA (elems_eL ..) w1 n1 n1 (by omega) (by simp;omega) (by decide)
 rw [q1]at o2 x2 y2
 have z2:=z1.trans (x2.lower (by omega:h.n≤h.n+2))
 replace o1:=o1.ext y2
 clear hA
 generalize hK2:wl H2 _=K2 at *
 have a2:=x2.get h.n (by omega)
 have b2:=x2.get (h.n+1) (by omega)
 have q2:=x2.lim
 have w2:=x2.wf
 have n2:=x2.le
 rw [a1]at a2
 rw [b1]at b2
 rw [q1]at q2
 simp [hK2,a2,q1,q2,hm,e138]
 generalize hA:cloneHook _ _ _ _ _=A
 obtain ⟨v3,H3,rfl,o3,x3,y3⟩:=clone_wl (lo:=h.n+2) hA (elems_eL ..) w2 n2 n2 (by omega) (by simp;omega) (by decide)
 rw [q2]at o3 x3 y3
 have z3:=z2.trans (x3.lower (by omega:h.n≤h.n+2))
 replace o1:=o1.ext y3
 replace o2:=o2.ext y3
 clear hA
 generalize hK3:wl H3 _=K3 at *
 have a3:=x3.get h.n (by omega)
 have b3:=x3.get (h.n+1) (by omega)
 have q3:=x3.lim
 have w3:=x3.wf
 have n3:=x3.le
 rw [a2]at a3
 rw [b2]at b3
 rw [q2]at q3
 simp [hK3,a3,q2,q3,hm,e112]
 generalize hA:cloneHook _ _ _ _ _=A
 obtain ⟨v4,H4,rfl,o4,x4,y4⟩:=clone_wl (lo:=h.n+2) hA (elems_eL ..) w3 n3 n3 (by omega) (by simp;omega) (by decide)
 rw [q3]at o4 x4 y4
 have z4:=z3.trans (x4.lower (by omega:h.n≤h.n+2))
 replace o1:=o1.ext y4
 replace o2:=o2.ext y4
 replace o3:=o3.ext y4
 clear hA
 generalize hK4:wl H4 _=K4 at *
 have a4:=x4.get h.n (by omega)
 have b4:=x4.get (h.n+1) (by omega)
 have q4:=x4.lim
 have w4:=x4.wf
 have n4:=x4.le
 rw [a3]at a4
 rw [b3]at b4
 rw [q3]at q4
 simp [hK4,a4,q3,q4,hm,e126]
 generalize hA:cloneHook _ _ _ _ _=A
 obtain ⟨v5,K5,rfl,o5,x5,y5⟩:=clone_own (lo:=h.n+2) (elems_eL ..) w4 n4 (by omega) (by simp;omega) (by decide) hA
 have z5:=z4.trans (x5.lower (by omega:h.n≤h.n+2))
 replace o1:=o1.ext y5
 replace o2:=o2.ext y5
 replace o3:=o3.ext y5
 replace o4:=o4.ext y5
 clear hA
 have a5:=x5.get h.n (by omega)
 have b5:=x5.get (h.n+1) (by omega)
 have q5:=x5.lim
 have w5:=x5.wf
 have n5:=x5.le
 rw [a4]at a5
 rw [b4]at b5
 rw [q4]at q5
 have c5:h.n<K5.n:=by omega
 have d5:h.n+1<K5.n:=by omega
 have f5:h.lim≤h.n+1:=by omega
 simp [a5,b5,q5,w5,c5,d5,f5,hlim,o1.storable,o2.storable,o3.storable,o4.storable,o5.storable,o1.ecells,o2.ecells,o3.ecells,o4.ecells,o5.ecells,turn]
 refine ⟨v1,v2,v3,v4,v5,_,⟨⟨rfl,rfl,rfl,rfl,rfl⟩,rfl⟩,?_,?_,?_,?_,?_,?_⟩
 ·exact ((o1.setLow w5 (by omega) c5).setLow w5.set (by omega) d5).lower (by omega)
 ·exact ((o2.setLow w5 (by omega) c5).setLow w5.set (by omega) d5).lower (by omega)
 ·exact ((o3.setLow w5 (by omega) c5).setLow w5.set (by omega) d5).lower (by omega)
 ·exact ((o4.setLow w5 (by omega) c5).setLow w5.set (by omega) d5).lower (by omega)
 ·exact ((o5.setLow w5 (by omega) c5).setLow w5.set (by omega) d5).lower (by omega)
 ·exact (z5.set (by omega) c5).set (by omega) d5
end Go.Dm.Tc
/-
What functions of the program compute,part 3: an advertisement learned,found.
-/
namespace Go.Dm.Tc
section
variable {α:Type} (key:α→ID)
def insAt (a:α) (l:List α):List α:=l.take (lowIdx (fun b=>cmpID (key b) (key a)) l)++a::l.drop (lowIdx (fun b=>cmpID (key b) (key a)) l)
theorem rising_low {l:List α} (h:Rising (l.map key)) (x:ID):(∀i (hi:i<l.length),i<lowIdx (fun b=>cmpID (key b) x) l→cmpID (key l[i]) x<0)∧(∀i (hi:i<l.length),lowIdx (fun b=>cmpID (key b) x) l≤i→¬cmpID (key l[i]) x<0):=by
 constructor
 ·intro i hi hlt
  have:=List.not_of_lt_findIdx (p:=fun b=>!decide (cmpID (key b) x<0)) hlt
  simpa using this
 ·intro i hi hle hc
  have hk:lowIdx (fun b=>cmpID (key b) x) l<l.length:=Nat.lt_of_le_of_lt hle hi
  have h1:¬cmpID (key l[lowIdx (fun b=>cmpID (key b) x) l]) x<0:=by
   have:=List.findIdx_getElem (p:=fun b=>!decide (cmpID (key b) x<0)) (w:=hk)
   unfold lowIdx
   simpa using this
  exact h1 (mono_of_rising h x _ _ hk hi hle hc)
theorem hit_find {l:List α} (h:Rising (l.map key)) (x:ID):match l.find? (fun b=>key b=x) with
  | some a=>hitAt (fun b=>cmpID (key b) x) l=true∧l[lowIdx (fun b=>cmpID (key b) x) l]?=some a
  | none=>hitAt (fun b=>cmpID (key b) x) l=false:=by
 obtain ⟨r1,r2⟩:=rising_low key h x
 have hone:∀i j (hi:i<l.length) (hj:j<l.length),key l[i]=x→key l[j]=x→i=j:=by
  intro i j hi hj e1 e2
  rcases Nat.lt_trichotomy i j with hlt|he|hlt
  ·have:=List.pairwise_iff_getElem.1 h i j (by simpa using hi) (by simpa using hj) hlt
   simp only [List.getElem_map,e1,e2]at this
   rw [cmpID_lt]at this;omega
  ·exact he
  ·have:=List.pairwise_iff_getElem.1 h j i (by simpa using hj) (by simpa using hi) hlt
   simp only [List.getElem_map,e1,e2]at this
   rw [cmpID_lt]at this;omega
 cases hf:l.find? (fun b=>key b=x) with
 | some a =>
  have hax:key a=x:=by simpa using List.find?_some hf
  obtain ⟨i,hi,hia⟩:=List.mem_iff_getElem.1 (List.mem_of_find?_eq_some hf)
  have hk:lowIdx (fun b=>cmpID (key b) x) l=i:=by
   refine lowIdx_eq (Nat.le_of_lt hi) (fun q hq=>?_) (fun hq=>?_)
   ·have:=List.pairwise_iff_getElem.1 h q i (by simp;omega) (by simpa using hi) hq
    simp only [List.getElem_map,hia,hax]at this
    exact this
   ·rw [hia,hax,cmpID_lt];omega
  have hge:l[lowIdx (fun b=>cmpID (key b) x) l]?=some a:=by rw [hk,List.getElem?_eq_getElem hi,hia]
  refine ⟨?_,hge⟩
  unfold hitAt
  rw [hge]
  simp only [hax]
  simp [cmpID_eq]
 | none =>
  unfold hitAt
  cases hg:l[lowIdx (fun b=>cmpID (key b) x) l]? with
  | none=>rfl
  | some a =>
   have:key a≠x:=by
    have:=List.find?_eq_none.1 hf a (List.mem_of_getElem? hg)
    simpa using this
   simp only [decide_eq_false_iff_not]
   rw [cmpID_eq];exact this
end
theorem hit_mem {l:List ID} (hr:Rising l) (x:ID):hitAt (fun b=>cmpID b x) l=decide (x∈l):=by
 have hf:=hit_find (fun a:ID=>a) (by simpa using hr) x
 cases hq:l.find? (fun a=>a=x) with
 | none =>
  rw [hq]at hf
  simp only at hf
  rw [hf]
  have:=List.find?_eq_none.1 hq
  symm
  simp only [decide_eq_false_iff_not]
  intro hm
  exact this x hm (by simp)
 | some a =>
  rw [hq]at hf
  rw [hf.1]
  have h1:a=x:=by simpa using List.find?_some hq
  have h2:=List.mem_of_find?_eq_some hq
  rw [h1]at h2
  simp [h2]
def advOf (b:Broker) (x:ID):Option Advert:=b.adverts.find? fun a=>a.id=x
def advZero:Advert:=⟨⟨0,0⟩,[],0⟩
def hasO {α:Type}:Option α→Bool|some _=>true|none=>false
theorem s23 (x0 x1 x3 x4 x5:DV) (t:Bool) (l:List Advert) (c d:Int) (hr:Rising (l.map (·.id))) (hl:l.length≤1000000) (f0:Flat 20 x0) (f1:Flat 20 x1) (f3:Flat 20 x3) (f4:Flat 20 x4) (f5:Flat 20 x5) :
  pcF D t23 [.agg [x0,x1,eL t 4 eAdvert l,x3,x4,x5],.agg [.int .i64 c,.int .i64 d]]=some (.tup [eAdvert ((l.find? fun a=>a.id=⟨c,d⟩).getD advZero),.bool (hasO (l.find? fun a=>a.id=⟨c,d⟩))]):=by
 have hf:=hit_find (fun a:Advert=>a.id) hr ⟨c,d⟩
 unfold pcF
 rw [goRun_eq _ _ _ _ (by simp [t23])]
 have g0:∀h,resolve true h 199 x0=some x0:=fun h=>f0 _ _ _ (by decide)
 have g1:∀h,resolve true h 199 x1=some x1:=fun h=>f1 _ _ _ (by decide)
 have g3:∀h,resolve true h 199 x3=some x3:=fun h=>f3 _ _ _ (by decide)
 have g4:∀h,resolve true h 199 x4=some x4:=fun h=>f4 _ _ _ (by decide)
 have g5:∀h,resolve true h 199 x5=some x5:=fun h=>f5 _ _ _ (by decide)
 cases hq:l.find? (fun a=>a.id=⟨c,d⟩) with
 | none =>
  rw [hq]at hf
  simp at hf
  simp [t23,e72,s72,g0,g1,g3,g4,g5,hr,hl,hf,hq,eAdvert,advZero,hasO,resultsOf]
  rfl
 | some a =>
  rw [hq]at hf
  simp at hf
  simp [t23,e72,s72,g0,g1,g3,g4,g5,hr,hl,hf.1,hf.2,hq,eAdvert,hasO,resultsOf]
structure Sized (b:Broker):Prop where
 near:b.near.length≤100000
 adv:b.adverts.length≤100000
 seen:b.seen.length≤100000
 ent:b.entries.length≤100000
 own:b.owns.length≤100000
def learnB (b:Broker) (a:Advert):Broker×Bool :=
 if a.id∈b.seen then (b,false) else ({b with adverts:=insAt (fun a=>a.id) a b.adverts,seen:=insAt (fun x=>x) a.id b.seen},true)
theorem q70 {h:Heap} {A:Option (DV×Heap)} {me:Int} {t1 t2 t3 t4 t5:Bool} {near:List Int} {adv:List Advert} {seen:List ID} {ent:List Entry} {own:List OwnS} (hA:fc D 70 [.agg [.int .i64 me,eL t1 1 cInt near,eL t2 4 eAdvert adv,eL t3 2 eID seen,eL t4 7 eEntry ent,eL t5 3 eOwn own]] h=A)
  (hs:Sized ⟨me,near,adv,seen,ent,own⟩) (wf:WF h) (hlim:h.lim≤h.n) :
  ∃ v1 v2 v3 v4 v5 h',A=some (.agg [.int .i64 me,v1,v2,v3,v4,v5],h') ∧
   Own h.n h' v1 3 1 (near.map cInt)∧Own h.n h' v2 42 4 (adv.map eAdvert)∧Own h.n h' v3 37 2 (seen.map eID)∧Own h.n h' v4 58 7 (ent.map eEntry)∧Own h.n h' v5 60 3 (own.map eOwn)∧Ext h.n h h':=by
 subst hA
 obtain ⟨z1,z2,z3,z4,z5⟩:=hs
 simp only at z1 z2 z3 z4 z5
 exact s70 h me t1 t2 t3 t4 t5 near adv seen ent own (by omega) (by omega) (by omega) (by omega) (by omega) wf hlim
theorem s19 (t:Tags) (b:Broker) (c d:Int) (p:Pred) (q:Int) (hs:Sized b) (ra:Rising (b.adverts.map (·.id))) (rs:Rising b.seen) :
  pcF D t19 [eBroker t b,.agg [.int .i64 c,.int .i64 d,ePred p,.int .i64 q]]=some (.tup [eBroker .none (learnB b ⟨⟨c,d⟩,p,q⟩).1,.bool (learnB b ⟨⟨c,d⟩,p,q⟩).2]):=by
 obtain ⟨me,near,adv,seen,ent,own⟩:=b
 unfold pcF
 rw [goRun_eq _ _ _ _ (by simp [t19])]
 simp [t19,eBroker]
 generalize hA:fc D _ _ _=A
 obtain ⟨v1,v2,v3,v4,v5,K,rfl,o1,o2,o3,o4,o5,x⟩:=q70 hA hs (by simp) (by simp)
 simp at o1 o2 o3 o4 o5 x
 clear hA
 have a0:=x.get 0 (by decide)
 have a1:=x.get 1 (by decide)
 have a2:=x.get 2 (by decide)
 have q0:=x.lim
 have w0:=x.wf
 have n0:=x.le
 simp at a0 a1 a2 q0
 have l0:0<K.n:=by omega
 have l2:2<K.n:=by omega
 have r1:∀o,resolve true (K.set 0 o) 199 v1=some (eL true 1 cInt near):=fun o=>(o1.setLow w0 (by decide) l0).resolve true (fun y _=>(plain_cint y).1) (by decide)
 have r2:∀o,resolve true (K.set 0 o) 199 v2=some (eL true 4 eAdvert adv):=fun o=>(o2.setLow w0 (by decide) l0).resolve true (fun y _=>(plain_advert y).1) (by decide)
 have r3:∀o,resolve true (K.set 0 o) 199 v3=some (eL true 2 eID seen):=fun o=>(o3.setLow w0 (by decide) l0).resolve true (fun y _=>(plain_id y).1) (by decide)
 have r4:∀o,resolve true (K.set 0 o) 199 v4=some (eL true 7 eEntry ent):=fun o=>(o4.setLow w0 (by decide) l0).resolve true (fun y _=>(plain_entry y).1) (by decide)
 have r5:∀o,resolve true (K.set 0 o) 199 v5=some (eL true 3 eOwn own):=fun o=>(o5.setLow w0 (by decide) l0).resolve true (fun y _=>(plain_own y).1) (by decide)
 have hsl:seen.length≤1000000:=by have:=hs.seen;simp only at this;omega
 have hal:adv.length≤1000000:=by have:=hs.adv;simp only at this;omega
 simp only at ra rs
 have hh:=hit_mem rs ⟨c,d⟩
 obtain ⟨R,hR⟩:∃ R,R=DV.tup [eBroker .none (learnB ⟨me,near,adv,seen,ent,own⟩ ⟨⟨c,d⟩,p,q⟩).1,.bool (learnB ⟨me,near,adv,seen,ent,own⟩ ⟨⟨c,d⟩,p,q⟩).2]:=⟨_,rfl⟩
 simp only [eBroker]at hR
 rw [←hR]
 by_cases hm:(⟨c,d⟩:ID)∈seen
 ·have r1':∀o o',resolve false ((K.set 0 o).set 2 o') 198 v1=some (eL false 1 cInt near):=fun o o'=>((o1.setLow w0 (by decide) l0).setLow w0.set (by decide) l2).resolve false (fun y _=>(plain_cint y).1) (by decide)
  have r2':∀o o',resolve false ((K.set 0 o).set 2 o') 198 v2=some (eL false 4 eAdvert adv):=fun o o'=>((o2.setLow w0 (by decide) l0).setLow w0.set (by decide) l2).resolve false (fun y _=>(plain_advert y).1) (by decide)
  have r3':∀o o',resolve false ((K.set 0 o).set 2 o') 198 v3=some (eL false 2 eID seen):=fun o o'=>((o3.setLow w0 (by decide) l0).setLow w0.set (by decide) l2).resolve false (fun y _=>(plain_id y).1) (by decide)
  have r4':∀o o',resolve false ((K.set 0 o).set 2 o') 198 v4=some (eL false 7 eEntry ent):=fun o o'=>((o4.setLow w0 (by decide) l0).setLow w0.set (by decide) l2).resolve false (fun y _=>(plain_entry y).1) (by decide)
  have r5':∀o o',resolve false ((K.set 0 o).set 2 o') 198 v5=some (eL false 3 eOwn own):=fun o o'=>((o5.setLow w0 (by decide) l0).setLow w0.set (by decide) l2).resolve false (fun y _=>(plain_own y).1) (by decide)
  simp [a0,a1,a2,q0,w0,l0,l2,e71,s71,r1,r2,r3,r4,r5,r1',r2',r3',r4',r5',rs,hsl,hh,hm,resultsOf]
  simp [hR,learnB,hm,Tags.none]
 ·simp [a0,a1,a2,q0,w0,l0,l2,e71,s71,e72,s72,r1,r2,r3,r4,r5,rs,ra,hsl,hal,hh,hm]
  generalize hA:fc D _ _ _=A
  obtain ⟨v2',K2,rfl,p2,x2,k2⟩:=q73 hA 3 adv ⟨⟨c,d⟩,p,q⟩ (vety:=42) (c:=1) (o2.setLow w0 (by decide) l0).push (by simp [eAdvert]) (lowIdx_le _ _) hal (by simp [w0]) (by simp;omega) (by simp [q0])
  clear hA
  have b0:=x2.get 0 (by decide)
  have b1:=x2.get 1 (by decide)
  have b2:=x2.get 2 (by decide)
  have q2:=x2.lim
  have w2:=x2.wf
  have m2:=x2.le
  have z0:¬0=K.n:=by omega
  have z1:¬1=K.n:=by omega
  have z2:¬2=K.n:=by omega
  simp [a1,a2,w0,l0,q0,z0,z1,z2]at b0 b1 b2 q2
  have p1:=(((o1.setLow w0 (by decide) l0).push).keep k2 x2.lim (by decide))
  have p3:=(((o3.setLow w0 (by decide) l0).push).keep k2 x2.lim (by decide))
  have p4:=(((o4.setLow w0 (by decide) l0).push).keep k2 x2.lim (by decide))
  have p5:=(((o5.setLow w0 (by decide) l0).push).keep k2 x2.lim (by decide))
  have m0:0<K2.n:=by omega
  have m22:2<K2.n:=by omega
  simp [b0,b1,b2,q2,w2,m0,m22,p2.storable,p2.ecells,turn]
  generalize hA:fc D _ _ _=A
  obtain ⟨v3',K3,rfl,p3',x3,k3⟩:=q74 hA 3 seen ⟨c,d⟩ (vety:=37) (c:=1) (p3.setLow w2 (by decide) m0).push (by simp [eID]) (lowIdx_le _ _) hsl (by simp [w2]) (by simp;omega) (by simp [q2])
  clear hA
  have c0:=x3.get 0 (by decide)
  have c1:=x3.get 1 (by decide)
  have c2:=x3.get 2 (by decide)
  have q3:=x3.lim
  have w3:=x3.wf
  have m3:=x3.le
  have y0:¬0=K2.n:=by omega
  have y1:¬1=K2.n:=by omega
  have y2:¬2=K2.n:=by omega
  simp [b1,b2,w2,m0,q2,y0,y1,y2]at c0 c1 c2 q3
  have m30:0<K3.n:=by omega
  have m32:2<K3.n:=by omega
  replace p1:=((p1.setLow w2 (by decide) m0).push).keep k3 x3.lim (by decide)
  replace p2:=((p2.setLow w2 (by decide) m0).push).keep k3 x3.lim (by decide)
  replace p4:=((p4.setLow w2 (by decide) m0).push).keep k3 x3.lim (by decide)
  replace p5:=((p5.setLow w2 (by decide) m0).push).keep k3 x3.lim (by decide)
  have r1':∀o o',resolve false ((K3.set 0 o).set 2 o') 198 v1=some (eL false 1 cInt near):=fun o o'=>((p1.setLow w3 (by decide) m30).setLow w3.set (by decide) m32).resolve false (fun y _=>(plain_cint y).1) (by decide)
  have r2':=fun o o'=>((p2.setLow (o:=o) w3 (by decide) m30).setLow (o:=o') w3.set (by decide) m32).resolve (n:=198) false (fun y _=>(plain_advert y).1) (by decide)
  have r3':=fun o o'=>((p3'.setLow (o:=o) w3 (by decide) m30).setLow (o:=o') w3.set (by decide) m32).resolve (n:=198) false (fun y _=>(plain_id y).1) (by decide)
  have r4':∀o o',resolve false ((K3.set 0 o).set 2 o') 198 v4=some (eL false 7 eEntry ent):=fun o o'=>((p4.setLow w3 (by decide) m30).setLow w3.set (by decide) m32).resolve false (fun y _=>(plain_entry y).1) (by decide)
  have r5':∀o o',resolve false ((K3.set 0 o).set 2 o') 198 v5=some (eL false 3 eOwn own):=fun o o'=>((p5.setLow w3 (by decide) m30).setLow w3.set (by decide) m32).resolve false (fun y _=>(plain_own y).1) (by decide)
  simp [c0,c1,c2,q3,w3,m30,m32,p3'.storable,p3'.ecells,turn,r1',r2',r3',r4',r5',resultsOf]
  simp [hR,learnB,hm,Tags.none,insAt]
end Go.Dm.Tc
/-
What functions of the program compute,part 4: are two brokers the same?
-/
namespace Go.Dm.Tc
structure SizedP (b:Broker):Prop where
 adv:∀x∈b.adverts,x.pred.length≤1000000
 ent:∀x∈b.entries,x.pred.length≤1000000
 own:∀x∈b.owns,x.pred.length≤1000000
end Go.Dm.Tc
/-
What functions of the program compute,part 5: the statements' own comparisons of brokers.
-/
namespace Go.Dm.Tc
end Go.Dm.Tc
/-
What functions of the statements' own packages compute: numbers brought into bounds;predicates made of numbers;a broker copied.
-/
namespace Go.Dm.Tc
def within (n lo hi:Int):Int:=if n.tmod (hi-lo+1)<0 then lo+(n.tmod (hi-lo+1)+hi-lo+1) else lo+n.tmod (hi-lo+1)
theorem within_bounds (n:Int) {lo hi:Int} (h:lo≤hi):lo≤within n lo hi∧within n lo hi≤hi:=by
 have h1:0<hi-lo+1:=by omega
 have h2:=Int.tmod_lt_of_pos n h1
 have h3:-(hi-lo+1)<n.tmod (hi-lo+1):=by
  have:=Int.lt_tmod_of_pos n h1
  omega
 unfold within
 split<;>omega
theorem s16 (n lo hi:Int) (h:lo≤hi) (hlo:-1000000000≤lo) (hhi:hi≤1000000000):pcF D t16 [.int .i64 n,.int .i64 lo,.int .i64 hi]=some (.int .i64 (within n lo hi)):=by
 unfold pcF
 rw [goRun_eq _ _ _ _ (by simp [t16])]
 have h1:0<hi-lo+1:=by omega
 have h2:=Int.tmod_lt_of_pos n h1
 have h3:-(hi-lo+1)<n.tmod (hi-lo+1):=by
  have:=Int.lt_tmod_of_pos n h1
  omega
 have w1:IntKind.i64.wrap (hi-lo)=hi-lo:=wrap64 (by omega) (by omega)
 have w2:IntKind.i64.wrap (hi-lo+1)=hi-lo+1:=wrap64 (by omega) (by omega)
 have hne:hi-lo+1≠0:=by omega
 have hr:arithD .rem (.int .i64 n) (.int .i64 (hi-lo+1))=some (.int .i64 (n.tmod (hi-lo+1))):=by simp [arithD,hne]
 by_cases hneg:n.tmod (hi-lo+1)<0
 ·have w3:IntKind.i64.wrap (n.tmod (hi-lo+1)+hi)=n.tmod (hi-lo+1)+hi:=wrap64 (by omega) (by omega)
  have w4:IntKind.i64.wrap (n.tmod (hi-lo+1)+hi-lo)=n.tmod (hi-lo+1)+hi-lo:=wrap64 (by omega) (by omega)
  have w5:IntKind.i64.wrap (n.tmod (hi-lo+1)+hi-lo+1)=n.tmod (hi-lo+1)+hi-lo+1:=wrap64 (by omega) (by omega)
  have w6:IntKind.i64.wrap (lo+(n.tmod (hi-lo+1)+hi-lo+1))=lo+(n.tmod (hi-lo+1)+hi-lo+1):=wrap64 (by omega) (by omega)
  simp [t16,w1,w2,hr,hneg,w3,w4,w5,w6,within]
 ·have w6:IntKind.i64.wrap (lo+n.tmod (hi-lo+1))=lo+n.tmod (hi-lo+1):=wrap64 (by omega) (by omega)
  simp [t16,w1,w2,hr,hneg,w6,within]
def namesL:List (List UInt8):=[[97],[98],[99],[100],[101],[102],[103]]
def textsL:List (List UInt8):=[[],[120],[120,121],[120,121,122],[120,122],[121],[121,121]]
theorem s67:pcF D t67 []=some (eL false 1 eStr namesL):=by
 unfold pcF
 rw [goRun_eq _ _ _ _ (by simp [t67])]
 simp [t67,List.replicate]
 exact ⟨rfl,rfl⟩
theorem s136:pcF D t136 []=some (eL false 1 eStr textsL):=by
 unfold pcF
 rw [goRun_eq _ _ _ _ (by simp [t136])]
 simp [t136,List.replicate]
 exact ⟨rfl,rfl⟩
def pickI (l:List Int) (i:Nat):Int:=if l.length=0 then 0 else l.getD (i % l.length) 0
theorem s69 (t:Bool) (l:List Int) (i:Nat):pcF D t69 [eL t 1 cInt l,.int .i64 i]=some (.int .i64 (pickI l i)):=by
 unfold pcF
 rw [goRun_eq _ _ _ _ (by simp [t69])]
 cases l with
 | nil=>simp [t69,pickI]
 | cons x l =>
  have hne:((l.length:Int)+1)≠0:=by omega
  have hr:arithD .rem (.int .i64 (i:Int)) (.int .i64 ((l.length:Int)+1))=some (.int .i64 ((i % (l.length+1):Nat):Int)):=by
   simp only [arithD,if_true,if_neg hne]
   congr 2
  have hlt:i % (l.length+1)<(x::l).length:=by simp;exact Nat.mod_lt _ (by omega)
  simp [t69,hr,-Int.natCast_emod,List.getElem?_eq_getElem hlt,cInt,pickI,hne]
def mkCons (name:List UInt8) (n:Int):Cons :=
 if within n 0 3=0∨within n 0 3=1 then ⟨name,1,within (IntKind.i64.wrap (n.tdiv 4)) 0 9,within (IntKind.i64.wrap (n.tdiv 4)) 0 9+within (IntKind.i64.wrap (n.tdiv 40)) 0 9,[]⟩
 else ⟨name,if within n 0 3=2 then 2 else 3,0,0,textsL.getD (within (IntKind.i64.wrap (n.tdiv 4)) 0 6).toNat []⟩
set_option maxRecDepth 8000 in
theorem s68 (name:List UInt8) (n:Int):pcF D t68 [.str name,.int .i64 n]=some (eCons (mkCons name n)):=by
 unfold pcF
 rw [goRun_eq _ _ _ _ (by simp [t68])]
 have w0:=s16 n 0 3 (by decide) (by decide) (by decide)
 have w1:=fun m=>s16 m 0 9 (by decide) (by decide) (by decide)
 have w2:=fun m=>s16 m 0 6 (by decide) (by decide) (by decide)
 have hq4:arithD .quo (.int .i64 n) (.int .i64 4)=some (.int .i64 (IntKind.i64.wrap (n.tdiv 4))):=rfl
 have hq40:arithD .quo (.int .i64 n) (.int .i64 40)=some (.int .i64 (IntKind.i64.wrap (n.tdiv 40))):=rfl
 by_cases h01:within n 0 3=0∨within n 0 3=1
 ·have b1:=within_bounds (IntKind.i64.wrap (n.tdiv 4)) (show (0:Int)≤9 by decide)
  have b2:=within_bounds (IntKind.i64.wrap (n.tdiv 40)) (show (0:Int)≤9 by decide)
  have w3:IntKind.i64.wrap (within (IntKind.i64.wrap (n.tdiv 4)) 0 9+within (IntKind.i64.wrap (n.tdiv 40)) 0 9)=within (IntKind.i64.wrap (n.tdiv 4)) 0 9+within (IntKind.i64.wrap (n.tdiv 40)) 0 9:=wrap64 (by omega) (by omega)
  rcases h01 with h0|h1
  ·simp [t68,e16,w0,w1,hq4,hq40,h0,turn]
   rw [w3]
   simp [mkCons,eCons,h0]
  ·simp [t68,e16,w0,w1,hq4,hq40,h1,turn]
   rw [w3]
   simp [mkCons,eCons,h1]
 ·have b1:=within_bounds (IntKind.i64.wrap (n.tdiv 4)) (show (0:Int)≤6 by decide)
  have hlt:(within (IntKind.i64.wrap (n.tdiv 4)) 0 6).toNat<textsL.length:=by simp [textsL];omega
  obtain ⟨tx,hx⟩:∃ tx,textsL[(within (IntKind.i64.wrap (n.tdiv 4)) 0 6).toNat]?=some tx:=⟨_,List.getElem?_eq_getElem hlt⟩
  have h0:¬within n 0 3=0:=fun h=>h01 (.inl h)
  have h1:¬within n 0 3=1:=fun h=>h01 (.inr h)
  by_cases h2:within n 0 3=2
  ·simp [t68,e16,w0,w2,hq4,h0,h1,h2,turn,e136,s136,b1.1,hx,eStr]
   simp [mkCons,eCons,h0,h1,h2,hx]
  ·simp [t68,e16,w0,w2,hq4,h0,h1,h2,turn,e136,s136,b1.1,hx,eStr]
   simp [mkCons,eCons,h0,h1,h2,hx]
end Go.Dm.Tc
/-
What functions of the statements' own packages compute: predicates made of numbers.
-/
namespace Go.Dm.Tc
def and1 (n:Int):Int:=IntKind.i64.wrap ((BitVec.ofInt 64 n &&& BitVec.ofInt 64 1).toNat:Int)
def odd1 (n:Int):Bool:=decide (and1 n=1)
def mkPredA (has vals:List Int):List (List UInt8)→Nat→Pred→Pred
 | [],_,acc=>acc
 | nm::r,i,acc=>if i<has.length∧odd1 (has.getD i 0)=true∧acc.length<5 then mkPredA has vals r (i+1) (acc++[mkCons nm (pickI vals i)]) else mkPredA has vals r (i+1) acc
def mkPred (has vals:List Int):Pred:=mkPredA has vals namesL 0 []
theorem and_one (n:Int):arithD .and (.int .i64 n) (.int .i64 1)=some (.int .i64 (and1 n)):=rfl
theorem own_cons {lo:Nat} {h:Heap} {v:DV} {ety:Nat} {ys:List Cons} (w:Own lo h v ety 5 (ys.map eCons)):pcOut (some (v,h))=some (ePred ys):=w.out (fun y _=>(plain_con y).1.mono (by decide)) (fun y _=>(plain_con y).2.mono (by decide)) (k:=22) (by decide)
set_option maxRecDepth 8000 in
theorem l18 (th tv:Bool) (has vals:List Int) (tp:Nat) (h0:Heap) (g0:h0.get 0=some (.arr tp 2 [.agg [eL th 1 cInt has,eL tv 1 cInt vals]] (some 1))) (hlim:h0.lim=0) (hl:has.length≤9223372036854775807) :
  ∀(rest:List (List UInt8)) (acc:Pred) (i:Nat) (f:FEnv) (h:Heap),namesL.drop i=rest→acc.length≤i→f 1=.ptr 0 2 0 0→f 6=eL false 1 eStr namesL→f 7=.int .i64 7→f 8=.int .i64 i→Own 1 h (f 3) 62 5 (acc.map eCons)→Ext 1 h0 h →
  pcOut (fin [.t 2] (run D 43 [.block 0,.seq t18k0] (.loop t18l0) f h))=some (ePred (mkPredA has vals rest i acc)):=by
 intro rest
 induction rest with
 | nil =>
  intro acc i f h hd ha h1 h6 h7 h8 ho hx
  have hi:=drop_nil hd
  have:¬((i:Int)<7):=by simp [namesL]at hi;omega
  rw [run_loop_of t18l0.eq_1]
  simp [t18k0,h7,h8,this,mkPredA]
  exact own_cons ho
 | cons nm rest ih =>
  intro acc i f h hd ha h1 h6 h7 h8 ho hx
  obtain ⟨hi,he,hd'⟩:=drop_at hd
  have hi7:i<7:=by simpa [namesL] using hi
  have hlt:(i:Int)<7:=by omega
  have hg0:=(hx.get 0 (by decide)).trans g0
  have w1:IntKind.i64.wrap ((i:Int)+1)=(i:Int)+1:=wrap64 (by omega) (by omega)
  have hpk:=s69 tv vals i
  have hlen:lenV h 1 (f 3)=some (.int .i64 (acc.length:Int)):=by simpa using ho.lenV
  rw [run_loop_of t18l0.eq_1]
  by_cases c1:i<has.length
  ·obtain ⟨b,hb⟩:∃ b,has[i]=b:=⟨_,rfl⟩
   have hb':has.getD i 0=b:=by rw [List.getD_eq_getElem?_getD,List.getElem?_eq_getElem c1,hb];rfl
   by_cases c2:and1 b=1
   ·by_cases c3:acc.length<5
    ·have c3':(acc.length:Int)<5:=by omega
     have hm:mkPredA has vals (nm::rest) i acc=mkPredA has vals rest (i+1) (acc++[mkCons nm (pickI vals i)]):=by simp only [mkPredA];rw [if_pos ⟨c1,by rw [hb'];simp [odd1,c2],c3⟩]
     rw [hm]
     simp [h1,h6,h7,h8,hlt,hg0,hi,he,eStr,cInt,c1,hb,and_one,c2,hlen,c3',e69,hpk,e68,s68,eCons]
     generalize hA:appendD _ _ _ _ _ _=A
     obtain ⟨v',h',rfl,ho',hx'⟩:=ho.push.append hx.push.wf hx.push.le (by rw [hx.push.lim,hlim];omega) hA (by simp;omega) (by decide)
     simp [w1,h8]
     refine ih (acc++[mkCons nm (pickI vals i)]) (i+1) _ h' hd' (by simp;omega) ?_ ?_ ?_ ?_ ?_ (hx.push.trans hx')<;>simp [h1,h6,h7]
     simpa [eCons] using ho'
    ·have c3':¬(acc.length:Int)<5:=by omega
     have hm:mkPredA has vals (nm::rest) i acc=mkPredA has vals rest (i+1) acc:=by simp only [mkPredA];rw [if_neg (fun q=>c3 q.2.2)]
     rw [hm]
     simp [h1,h6,h7,h8,hlt,hg0,hi,he,eStr,cInt,c1,hb,and_one,c2,hlen,c3',w1]
     refine ih acc (i+1) _ h hd' (by omega) ?_ ?_ ?_ ?_ ?_ hx<;>simp [h1,h6,h7,ho]
   ·have hm:mkPredA has vals (nm::rest) i acc=mkPredA has vals rest (i+1) acc:=by simp only [mkPredA];rw [if_neg (fun q=>c2 (by rw [hb']at q;simpa [odd1] using q.2.1))]
    rw [hm]
    simp [h1,h6,h7,h8,hlt,hg0,hi,he,eStr,cInt,c1,hb,and_one,c2,w1]
    refine ih acc (i+1) _ h hd' (by omega) ?_ ?_ ?_ ?_ ?_ hx<;>simp [h1,h6,h7,ho]
  ·have c1':¬((i:Int)<has.length):=by omega
   have hm:mkPredA has vals (nm::rest) i acc=mkPredA has vals rest (i+1) acc:=by simp only [mkPredA];rw [if_neg (fun q=>c1 q.1)]
   rw [hm]
   simp [h1,h6,h7,h8,hlt,hg0,hi,he,eStr,c1,w1]
   refine ih acc (i+1) _ h hd' (by omega) ?_ ?_ ?_ ?_ ?_ hx<;>simp [h1,h6,h7,ho]
theorem s18 (th tv:Bool) (has vals:List Int) (hl:has.length≤9223372036854775807) :
  pcF D t18 [.agg [eL th 1 cInt has,eL tv 1 cInt vals]]=some (ePred (mkPred has vals)):=by
 unfold pcF
 rw [goRun_eq _ _ _ _ (by simp [t18])]
 simp [t18,e67,s67]
 refine l18 th tv has vals 32 _ ?_ ?_ hl namesL [] 0 _ _ rfl (by simp) ?_ ?_ ?_ ?_ ?_ (Ext.refl ?_ ?_)<;>simp [namesL]
 exact .start _ _ _ _
end Go.Dm.Tc
/-
What functions of the statements' own packages compute: a broker copied;the reference's orders and searches.
-/
namespace Go.Dm.Tc
end Go.Dm.Tc
/-
What the reference's functions compute,part 1: orders,searches,an advertisement learned.
-/
namespace Go.Dm.Tc
end Go.Dm.Tc
/-
What the reference's functions compute,part 2: an advertisement learned.
-/
namespace Go.Dm.Tc
end Go.Dm.Tc
/-
What functions of the program compute,part 9: what may be a name,a constraint,a predicate.
-/
namespace Go.Dm.Tc
def letters (s:List UInt8):Bool:=s.all fun b=>decide (97≤b.toNat) && decide (b.toNat≤122)
def nameOk (s:List UInt8):Bool:=letters s && !decide (s=[]) && decide (s.length≤12)
theorem l185 (xs:List UInt8) (hl:xs.length≤1000000) :
  ∀(rest:List UInt8) (i:Nat) (f:FEnv) (h:Heap),xs.drop i=rest→f 0=.str xs→f 5=.int .i64 xs.length→f 6=.int .i64 i →
  pcOut (fin [.t 2] (run D 27 [.block 0,.seq t185k0] (.loop t185l0) f h))=some (.bool (letters rest && !decide (xs=[]) && decide (xs.length≤12))):=by
 intro rest
 induction rest with
 | nil =>
  intro i f h hd h0 h5 h6
  have hi:=drop_nil hd
  have:¬(i<xs.length):=by omega
  rw [run_loop_of t185l0.eq_1]
  by_cases hx:xs=[]
  ·subst hx
   have h0i:¬(i:Int)<0:=by omega
   simp [t185k0,h0,h5,h6,h0i,letters]
  ·have hb:(xs == ([]:List UInt8))=false:=by cases xs<;>simp_all
   simp [t185k0,h0,h5,h6,this,hx,hb,letters]
   omega
 | cons e rest ih =>
  intro i f h hd h0 h5 h6
  obtain ⟨hi,he,hd'⟩:=drop_at hd
  have hq:∀k,indexStrV (.str xs) (.int k (i:Int))=some (.int .u8 e.toNat):=fun k=>indexStrV_nat xs k i (by rw [List.getElem?_eq_getElem hi,he])
  rw [run_loop_of t185l0.eq_1]
  by_cases h1:e.toNat<97
  ·have h1':(e.toNat:Int)<97:=by omega
   have hle:letters (e::rest)=false:=by
    have:¬97≤e.toNat:=by omega
    simp only [letters,List.all_cons,decide_eq_false this,Bool.false_and]
   simp [h0,h5,h6,hi,hq,h1',hle]
  ·have h1':¬(e.toNat:Int)<97:=by omega
   by_cases h2:122<e.toNat
   ·have h2':(122:Int)<e.toNat:=by omega
    have hle:letters (e::rest)=false:=by
     have:¬e.toNat≤122:=by omega
     simp only [letters,List.all_cons,decide_eq_false this,Bool.and_false,Bool.false_and]
    simp [h0,h5,h6,hi,hq,h1',h2',hle]
   ·have h2':¬(122:Int)<e.toNat:=by omega
    have hle:letters (e::rest)=letters rest:=by
     have q1:97≤e.toNat:=by omega
     have q2:e.toNat≤122:=by omega
     simp only [letters,List.all_cons,decide_eq_true q1,decide_eq_true q2,Bool.true_and]
    simp [h0,h5,h6,hi,hq,h1',h2',hle]
    rw [wrap64 (by omega) (by omega)]
    refine (ih (i+1) _ h hd' ?_ ?_ ?_).trans ?_<;>simp [h0,h5]
theorem s185 (xs:List UInt8) (hl:xs.length≤1000000):pcF D t185 [.str xs]=some (.bool (nameOk xs)):=by
 unfold pcF
 rw [goRun_eq _ _ _ _ (by simp [t185])]
 simp [t185]
 refine (l185 xs hl xs 0 _ _ rfl ?_ ?_ ?_).trans ?_<;>simp [nameOk]
def rightOne (c : Cons) : Bool :=
  nameOk c.name &&
    (if c.kind = 1 then decide (c.lo ≤ c.hi) && decide (c.text = [])
     else if c.kind = 3 then !decide (c.text.length = 12) && (decide (c.lo = 0) && decide (c.hi = 0) && decide (c.text.length ≤ 12))
     else if c.kind = 2 then decide (c.lo = 0) && decide (c.hi = 0) && decide (c.text.length ≤ 12)
     else false)
theorem s151 (nm:List UInt8) (k lo hi:Int) (tx:List UInt8) (hl:nm.length≤1000000) :
  pcF D t151 [.agg [.str nm,.int .i64 k,.int .i64 lo,.int .i64 hi,.str tx]]=some (.bool (rightOne ⟨nm,k,lo,hi,tx⟩)):=by
 unfold pcF
 rw [goRun_eq _ _ _ _ (by simp [t151])]
 cases hn:nameOk nm with
 | false=>simp [t151,e185,s185,hl,hn,rightOne]
 | true =>
  have hlen:∀n:Nat,((tx.length:Int) == (n:Int))=decide (tx.length=n):=fun n=>by
   by_cases h:tx.length=n
   ·simp [h]
   ·have h':¬(tx.length:Int)=n:=by omega
    simp [h,h']
  have hnil:(tx == ([]:List UInt8))=decide (tx=[]):=by cases tx<;>simp
  by_cases k1:k=1
  ·subst k1
   by_cases h1:lo≤hi
   ·simp [t151,e185,s185,hl,hn,rightOne,h1,hnil]
   ·simp [t151,e185,s185,hl,hn,rightOne,h1,hnil]
  ·by_cases k3:k=3
   ·subst k3
    by_cases h12:tx.length=12
    ·simp [t151,e185,s185,hl,hn,rightOne,h12]
    ·have h12':¬(tx.length:Int)=12:=by omega
     by_cases hlo:lo=0
     ·by_cases hhi:hi=0
      ·simp [t151,e185,s185,hl,hn,rightOne,h12,h12',hlo,hhi]
       omega
      ·simp [t151,e185,s185,hl,hn,rightOne,h12,h12',hlo,hhi]
     ·simp [t151,e185,s185,hl,hn,rightOne,h12,h12',hlo]
   ·by_cases k2:k=2
    ·subst k2
     by_cases hlo:lo=0
     ·by_cases hhi:hi=0
      ·simp [t151,e185,s185,hl,hn,rightOne,hlo,hhi]
       omega
      ·simp [t151,e185,s185,hl,hn,rightOne,hlo,hhi]
     ·simp [t151,e185,s185,hl,hn,rightOne,hlo]
    ·simp [t151,e185,s185,hl,hn,rightOne,k1,k2,k3]
def rightA:Option (List UInt8)→Pred→Bool
 | _,[]=>true
 | prev,c::r=>rightOne c && (match prev with|none=>true|some n=>Go.Op.bytesLess n c.name) && rightA (some c.name) r
def rightP (p:Pred):Bool:=rightA none p && decide (p.length≤5)
def NamesP (p:Pred):Prop:=p.length≤1000000∧∀c∈p,c.name.length≤1000000
end Go.Dm.Tc
/-
What functions of the program compute,part 10: is a broker right?
-/
namespace Go.Dm.Tc
def linkB (b:Broker) (n:Int):Bool:=decide (n=-1) || b.near.contains n
def cmpE (t1 s1 t2 s2:ID):Int:=orI (cmpID t1 t2) (cmpID s1 s2)
def ltE (x y:Entry):Bool:=decide (cmpE x.tree x.sub y.tree y.sub<0)
theorem of_rising {α:Type} {key:α→ID}:∀{l:List α},Rising (l.map key)→risesB (fun x y=>ltID (key x) (key y)) l=true
 | [],_=>rfl
 | [a],_=>rfl
 | a::b::r,h=>by
  unfold Rising at h
  rw [List.map_cons,List.pairwise_cons]at h
  simp only [risesB,Bool.and_eq_true]
  refine ⟨?_,of_rising (l:=b::r) h.2⟩
  have:=h.1 (key b) (by simp)
  simpa [ltID] using this
def rightEnt (b:Broker) (e:Entry):Bool :=
 match b.adverts.find? (fun a=>a.id=e.tree) with
 | none=>false
 | some a=>linkB b e.frm && (!decide (e.frm=a.parent) || decide (a.parent=-1)) && !(e.up && decide (a.parent=-1)) && rightP e.pred
end Go.Dm.Tc
/-
What functions of the program compute,part 11: is a broker right? All of it.
-/
namespace Go.Dm.Tc
structure SizedN (b:Broker):Prop where
 adv:∀x∈b.adverts,NamesP x.pred
 ent:∀x∈b.entries,NamesP x.pred
 own:∀x∈b.owns,NamesP x.pred
def rightAdv (b:Broker) (a:Advert):Bool:=decide (a.id∈b.seen) && linkB b a.parent && rightP a.pred
def bCells (t:Tags) (b:Broker):List DV:=[.int .i64 b.me,eL t.near 1 cInt b.near,eL t.adverts 4 eAdvert b.adverts,eL t.seen 2 eID b.seen,eL t.entries 7 eEntry b.entries,eL t.owns 3 eOwn b.owns]
def rightRows (b:Broker):Bool :=
 risesB (fun x y=>decide (x<y)) b.near && risesB (fun x y=>ltID x y) b.seen && risesB (fun x y:Advert=>ltID x.id y.id) b.adverts && risesB (fun x y:OwnS=>ltID x.id y.id) b.owns && risesB ltE b.entries
def rightB (b:Broker):Bool :=
 rightRows b && !(b.adverts.any fun a=>!rightAdv b a) && !(b.entries.any fun e=>!rightEnt b e) && !(b.owns.any fun o=>!rightP o.pred)
end Go.Dm.Tc
/-
What functions of the program compute,part 12: an advertisement forgotten.
-/
namespace Go.Dm.Tc
def without {α:Type} (key:α→ID) (x:ID) (l:List α):List α:=l.filter fun a=>!decide (key a=x)
theorem without_at {α:Type} (key:α→ID) {l:List α} (hr:Rising (l.map key)) {x:ID} {i:Nat} {a:α} (hi:l[i]?=some a) (ha:key a=x):l.take i++l.drop (i+1)=without key x l:=by
 have hlt:i<l.length:=by
  by_cases h:i<l.length
  ·exact h
  ·rw [List.getElem?_eq_none (by omega)]at hi;cases hi
 have hia:l[i]=a:=by rw [List.getElem?_eq_getElem hlt]at hi;exact Option.some.inj hi
 have hne:∀j (hj:j<l.length),j≠i→key l[j]≠x:=by
  intro j hj hji e
  rcases Nat.lt_or_gt_of_ne hji with h|h
  ·have:=List.pairwise_iff_getElem.1 hr j i (by simpa using hj) (by simpa using hlt) h
   simp only [List.getElem_map,hia,ha,e]at this
   rw [cmpID_lt]at this;omega
  ·have:=List.pairwise_iff_getElem.1 hr i j (by simpa using hlt) (by simpa using hj) h
   simp only [List.getElem_map,hia,ha,e]at this
   rw [cmpID_lt]at this;omega
 have h1:(l.take i).filter (fun a=>!decide (key a=x))=l.take i:=by
  rw [List.filter_eq_self]
  intro y hy
  obtain ⟨j,hj,rfl⟩:=List.mem_iff_getElem.1 hy
  rw [List.length_take]at hj
  have:=hne j (by omega) (by omega)
  simpa using this
 have h2:(l.drop (i+1)).filter (fun a=>!decide (key a=x))=l.drop (i+1):=by
  rw [List.filter_eq_self]
  intro y hy
  obtain ⟨j,hj,rfl⟩:=List.mem_iff_getElem.1 hy
  rw [List.length_drop]at hj
  have:=hne (i+1+j) (by omega) (by omega)
  simpa using this
 have h3:(l.drop i).filter (fun a=>!decide (key a=x))=l.drop (i+1):=by
  rw [List.drop_eq_getElem_cons hlt,List.filter_cons,hia,ha,h2];simp
 calc l.take i++l.drop (i+1)=(l.take i++l.drop i).filter (fun a=>!decide (key a=x)):=by rw [List.filter_append,h1,h3]
  _=_:=by rw [List.take_append_drop];rfl
def forgetB (b:Broker) (x:ID) (frm:Int):Broker×Bool :=
 match b.adverts.find? (fun a=>a.id=x) with
 | none=>(b,false)
 | some a=>if a.parent=frm then ({b with adverts:=without (fun a=>a.id) x b.adverts,entries:=without (fun e=>e.tree) x b.entries},true) else (b,false)
end Go.Dm.Tc
/-
What the reference's functions compute,part 3: an advertisement forgotten.
-/
namespace Go.Dm.Tc
end Go.Dm.Tc
/-
Calls that let go of rows,brought into form;closed runs.
-/
namespace Go.Dm.Tc
def consH:Option (DV×Heap)→(Heap→Option (List DV×Heap))→Option (List DV×Heap)
 | some (v,h),k=>match k h with|some (r,h')=>some (v::r,h')|none=>none
 | none,_=>none
def consL (v:DV):Option (List DV×Heap)→Option (List DV×Heap)
 | some (r,h)=>some (v::r,h)
 | none=>none
def aggH:Option (List DV×Heap)→Option (DV×Heap)
 | some (r,h)=>some (.agg r,h)
 | none=>none
theorem consL_some (v:DV) (r:List DV) (h:Heap):consL v (some (r,h))=some (v::r,h):=_root_.id rfl
theorem aggH_some (r:List DV) (h:Heap):aggH (some (r,h))=some (.agg r,h):=_root_.id rfl
theorem consH_some (v:DV) (h:Heap) (k:Heap→Option (List DV×Heap)):consH (some (v,h)) k=consL v (k h):=by
 simp only [consH];cases k h<;>rfl
theorem mapH_nil (f:Heap→DV→Option (DV×Heap)) (h:Heap):mapH f h []=some ([],h):=_root_.id rfl
theorem mapH_cons (f:Heap→DV→Option (DV×Heap)) (h:Heap) (v:DV) (r:List DV):mapH f h (v::r)=consH (f h v) (fun h1=>mapH f h1 r):=by
 simp only [mapH,consH]
 cases f h v with
 | none=>rfl
 | some p=>rfl
theorem frA_agg (h:Heap) (cs:List DV):freezeA h (.agg cs)=aggH (mapH freeze h cs):=by
 simp only [freezeA];cases mapH freeze h cs<;>rfl
theorem frA_int (h:Heap) (k:IntKind) (n:Int):freezeA h (.int k n)=some (.int k n,h):=_root_.id rfl
theorem frA_eL {α:Type} (h:Heap) (t:Bool) (sz:Nat) (e:α→DV) (xs:List α):freezeA h (eL t sz e xs)=some (eL t sz e xs,h):=by cases xs<;>rfl
theorem frA_pred (h:Heap) (p:Pred):freezeA h (ePred p)=some (ePred p,h):=frA_eL ..
theorem frA_str (h:Heap) (s:List UInt8):freezeA h (.str s)=some (.str s,h):=_root_.id rfl
theorem fr_int (h:Heap) (k:IntKind) (n:Int):freeze h (.int k n)=some (.int k n,h):=_root_.id rfl
theorem fr_bool (h:Heap) (b:Bool):freeze h (.bool b)=some (.bool b,h):=_root_.id rfl
theorem fr_nsl (h:Heap):freeze h .nsl=some (.nsl,h):=_root_.id rfl
theorem fr_eL {α:Type} (h:Heap) (t:Bool) (sz:Nat) (e:α→DV) (xs:List α):freeze h (eL t sz e xs)=some (eL t sz e xs,h):=by cases xs<;>rfl
theorem fr_pred (h:Heap) (p:Pred):freeze h (ePred p)=some (ePred p,h):=fr_eL ..
theorem fr_isl (h:Heap) (t:Bool) (sz:Nat) (xs:List DV):freeze h (.isl t sz xs)=some (.isl t sz xs,h):=_root_.id rfl
attribute [simp] consL_some aggH_some consH_some mapH_nil mapH_cons frA_agg frA_int frA_eL frA_pred frA_str fr_int fr_bool fr_nsl fr_eL fr_pred fr_isl callZ_some
theorem nn1 (n:Nat):(n=n+1)=False:=eq_false (by omega)
theorem mm1 (n:Nat):(n+1=n)=False:=eq_false (by omega)
theorem nn2 (n:Nat):(n=n+1+1)=False:=eq_false (by omega)
theorem mm2 (n:Nat):(n+1+1=n)=False:=eq_false (by omega)
theorem nn3 (n:Nat):(n=n+1+1+1)=False:=eq_false (by omega)
theorem mm3 (n:Nat):(n+1+1+1=n)=False:=eq_false (by omega)
theorem nn4 (n:Nat):(n=n+1+1+1+1)=False:=eq_false (by omega)
theorem mm4 (n:Nat):(n+1+1+1+1=n)=False:=eq_false (by omega)
theorem nn5 (n:Nat):(n=n+1+1+1+1+1)=False:=eq_false (by omega)
theorem mm5 (n:Nat):(n+1+1+1+1+1=n)=False:=eq_false (by omega)
theorem nn6 (n:Nat):(n=n+1+1+1+1+1+1)=False:=eq_false (by omega)
theorem mm6 (n:Nat):(n+1+1+1+1+1+1=n)=False:=eq_false (by omega)
theorem nn7 (n:Nat):(n=n+1+1+1+1+1+1+1)=False:=eq_false (by omega)
theorem mm7 (n:Nat):(n+1+1+1+1+1+1+1=n)=False:=eq_false (by omega)
theorem nn8 (n:Nat):(n=n+1+1+1+1+1+1+1+1)=False:=eq_false (by omega)
theorem mm8 (n:Nat):(n+1+1+1+1+1+1+1+1=n)=False:=eq_false (by omega)
theorem nn9 (n:Nat):(n=n+1+1+1+1+1+1+1+1+1)=False:=eq_false (by omega)
theorem mm9 (n:Nat):(n+1+1+1+1+1+1+1+1+1=n)=False:=eq_false (by omega)
theorem nn10 (n:Nat):(n=n+1+1+1+1+1+1+1+1+1+1)=False:=eq_false (by omega)
theorem mm10 (n:Nat):(n+1+1+1+1+1+1+1+1+1+1=n)=False:=eq_false (by omega)
theorem nn11 (n:Nat):(n=n+1+1+1+1+1+1+1+1+1+1+1)=False:=eq_false (by omega)
theorem mm11 (n:Nat):(n+1+1+1+1+1+1+1+1+1+1+1=n)=False:=eq_false (by omega)
theorem nn12 (n:Nat):(n=n+1+1+1+1+1+1+1+1+1+1+1+1)=False:=eq_false (by omega)
theorem mm12 (n:Nat):(n+1+1+1+1+1+1+1+1+1+1+1+1=n)=False:=eq_false (by omega)
attribute [simp] nn1 mm1 nn2 mm2 nn3 mm3 nn4 mm4 nn5 mm5 nn6 mm6 nn7 mm7 nn8 mm8 nn9 mm9 nn10 mm10 nn11 mm11 nn12 mm12
theorem pc_run {k n:Nat} {df:DFunc} {args ds:List DV} {d:DV} (he:∀args h,fc D k args h=callP D df h (args.mapM (resolve true h deepFuel))) (hd:args.mapM (resolve true heap0 deepFuel)=some ds) (hr:callD D n k args heap0=some (d,heap0)):pcF D df ds=some d:=by
 have h1:fc D k args heap0=some (d,heap0):=fc_some.2 ⟨n,hr⟩
 rw [he,hd,callP_some]at h1
 cases h2:pcF D df ds with
 | none=>rw [h2]at h1;cases h1
 | some x=>rw [h2,callR_some]at h1;injection h1 with h1;injection h1 with h1;rw [h1]
end Go.Dm.Tc
/-
Plain laws,part 1: predicates made of numbers are right;rows that rise stay so.
-/
namespace Go.Dm.Tc
theorem nameOk_names:∀nm∈namesL,nameOk nm=true∧nm.length≤1000000:=by decide
theorem texts_len:∀i:Nat,(textsL.getD i []).length≤3:=by
 intro i
 by_cases h:i<textsL.length
 ·have:∀x∈textsL,x.length≤3:=by decide
  rw [List.getD_eq_getElem?_getD,List.getElem?_eq_getElem h]
  exact this _ (List.getElem_mem h)
 ·rw [List.getD_eq_getElem?_getD,List.getElem?_eq_none (by omega)]
  simp
theorem mkCons_name (nm:List UInt8) (n:Int):(mkCons nm n).name=nm:=by unfold mkCons;split<;>rfl
theorem mkCons_right {nm:List UInt8} (h:nameOk nm=true) (n:Int):rightOne (mkCons nm n)=true:=by
 unfold mkCons
 split
 ·have b1:=within_bounds (IntKind.i64.wrap (n.tdiv 40)) (show (0:Int)≤9 by decide)
  simp only [rightOne,h,Bool.true_and,if_true]
  simp
  omega
 ·have ht:=texts_len (within (IntKind.i64.wrap (n.tdiv 4)) 0 6).toNat
  split
  ·simp only [rightOne,h,Bool.true_and]
   simp
   simp at ht
   omega
  ·simp only [rightOne,h,Bool.true_and]
   simp
   simp at ht
   omega
theorem rightA_snoc {c:Cons} (hc:rightOne c=true):∀(acc:Pred) (prev:Option (List UInt8)),rightA prev acc=true→(∀d∈acc,Go.Op.bytesLess d.name c.name=true)→(∀n,prev=some n→Go.Op.bytesLess n c.name=true)→rightA prev (acc++[c])=true
 | [],prev,_,_,hp=>by
  simp only [List.nil_append,rightA,hc,Bool.true_and,Bool.and_true]
  cases prev with
  | none=>rfl
  | some n=>exact hp n rfl
 | d::r,prev,h,hd,hp=>by
  simp only [rightA,Bool.and_eq_true]at h
  simp only [List.cons_append,rightA,Bool.and_eq_true]
  exact ⟨h.1,rightA_snoc hc r (some d.name) h.2 (fun x hx=>hd x (List.mem_cons_of_mem _ hx)) (fun n hn=>by injection hn with hn;rw [←hn];exact hd d (List.mem_cons_self ..))⟩
theorem mkPredA_right (has vals:List Int):∀(rest:List (List UInt8)) (i:Nat) (acc:Pred),(∀nm∈rest,nameOk nm=true∧nm.length≤1000000)→rest.Pairwise (fun a b=>Go.Op.bytesLess a b=true)→rightA none acc=true→acc.length≤5 →
  (∀d∈acc,d.name.length≤1000000∧∀nm∈rest,Go.Op.bytesLess d.name nm=true)→rightA none (mkPredA has vals rest i acc)=true∧(mkPredA has vals rest i acc).length≤5∧∀d∈mkPredA has vals rest i acc,d.name.length≤1000000
 | [],_,acc,_,_,h,hl,hd=>⟨h,hl,fun d hx=>(hd d hx).1⟩
 | nm::r,i,acc,hn,hp,h,hl,hd=>by
  rw [List.pairwise_cons]at hp
  simp only [mkPredA]
  split
  ·rename_i hc
   have hr:=mkCons_right (hn nm (List.mem_cons_self ..)).1 (pickI vals i)
   refine mkPredA_right has vals r (i+1) _ (fun x hx=>hn x (List.mem_cons_of_mem _ hx)) hp.2 (rightA_snoc hr acc none h (fun d hx=>by rw [mkCons_name];exact (hd d hx).2 nm (List.mem_cons_self ..)) (fun n e=>by cases e)) (by simp;omega) ?_
   intro d hx
   rcases List.mem_append.1 hx with hx|hx
   ·exact ⟨(hd d hx).1,fun y hy=>(hd d hx).2 y (List.mem_cons_of_mem _ hy)⟩
   ·simp only [List.mem_singleton]at hx
    subst hx
    rw [mkCons_name]
    exact ⟨(hn nm (List.mem_cons_self ..)).2,fun y hy=>hp.1 y hy⟩
  ·exact mkPredA_right has vals r (i+1) acc (fun x hx=>hn x (List.mem_cons_of_mem _ hx)) hp.2 h hl (fun d hx=>⟨(hd d hx).1,fun y hy=>(hd d hx).2 y (List.mem_cons_of_mem _ hy)⟩)
structure PredOk (p:Pred):Prop where
 right:rightP p=true
 names:NamesP p
 len:p.length≤5
theorem mkPred_ok (has vals:List Int):PredOk (mkPred has vals):=by
 obtain ⟨h1,h2,h3⟩:=mkPredA_right has vals namesL 0 [] nameOk_names (by decide) rfl (by simp) (by simp)
 exact ⟨by unfold rightP;rw [show rightA none (mkPred has vals)=true from h1,Bool.true_and];exact decide_eq_true h2,⟨Nat.le_trans h2 (by decide),h3⟩,h2⟩
theorem ins_rising {α:Type} (key:α→ID) (a:α) {l:List α} (h:Rising (l.map key)) (hn:∀b∈l,key b≠key a):Rising ((insAt key a l).map key):=by
 obtain ⟨r1,r2⟩:=rising_low key h (key a)
 have hp:l.Pairwise fun x y=>cmpID (key x) (key y)<0:=by unfold Rising at h;exact List.pairwise_map.1 h
 unfold Rising insAt
 rw [List.pairwise_map,List.pairwise_append,List.pairwise_cons]
 generalize hk:lowIdx (fun b=>cmpID (key b) (key a)) l=k at *
 have hlow:∀b∈l.take k,cmpID (key b) (key a)<0:=by
  intro b hb
  obtain ⟨i,hi,rfl⟩:=List.mem_iff_getElem.1 hb
  rw [List.getElem_take]
  rw [List.length_take]at hi
  exact r1 i (by omega) (by omega)
 have hhigh:∀b∈l.drop k,cmpID (key a) (key b)<0:=by
  intro b hb
  obtain ⟨i,hi,rfl⟩:=List.mem_iff_getElem.1 hb
  rw [List.length_drop]at hi
  rw [List.getElem_drop]
  have:=r2 (k+i) (by omega) (by omega)
  rcases cmpID_tri (key l[k+i]) (key a) with h1|h1|h1
  ·exact absurd h1 this
  ·exact absurd h1 (hn _ (List.getElem_mem _))
  ·exact h1
 refine ⟨hp.sublist (List.take_sublist ..),⟨fun b hb=>hhigh b hb,hp.sublist (List.drop_sublist ..)⟩,?_⟩
 intro x hx y hy
 rcases List.mem_cons.1 hy with rfl|hy
 ·exact hlow x hx
 ·exact cmpID_trans (hlow x hx) (hhigh y hy)
theorem ins_mem {α:Type} (key:α→ID) (a:α) (l:List α) (b:α):b∈insAt key a l↔b=a∨b∈l:=by
 unfold insAt
 rw [List.mem_append,List.mem_cons]
 constructor
 ·rintro (h|h|h)
  ·exact .inr (List.mem_of_mem_take h)
  ·exact .inl h
  ·exact .inr (List.mem_of_mem_drop h)
 ·rintro (h|h)
  ·exact .inr (.inl h)
  ·rw [←List.take_append_drop (lowIdx (fun b=>cmpID (key b) (key a)) l) l,List.mem_append]at h
   exact h.elim .inl fun h=>.inr (.inr h)
theorem ins_len {α:Type} (key:α→ID) (a:α) (l:List α):(insAt key a l).length=l.length+1:=by
 unfold insAt
 rw [List.length_append,List.length_cons,List.length_take,List.length_drop]
 have:=lowIdx_le (fun b=>cmpID (key b) (key a)) l
 omega
theorem without_rising {α:Type} (key:α→ID) {l:List α} (x:ID) (h:Rising (l.map key)):Rising ((without key x l).map key):=by
 unfold Rising at *
 rw [List.pairwise_map]at *
 exact h.sublist (List.filter_sublist ..)
end Go.Dm.Tc
/-
Plain laws,part 2: a broker that was told of advertisements alone;sets of IDs as maps.
-/
namespace Go.Dm.Tc
structure InvB (m0:Int) (nr:List Int) (b:Broker) (n:Nat):Prop where
 me:b.me=m0
 near:b.near=nr
 ent:b.entries=[]
 own:b.owns=[]
 ra:Rising (b.adverts.map (·.id))
 rs:Rising b.seen
 la:b.adverts.length≤n
 ls:b.seen.length≤n
 sub:∀a∈b.adverts,a.id∈b.seen
 par:∀a∈b.adverts,a.parent=-1∨a.parent∈nr
 prd:∀a∈b.adverts,PredOk a.pred
section
variable {me:Int} {near:List Int} {b:Broker} {n:Nat}
theorem InvB.start (me:Int) (near:List Int):InvB me near ⟨me,near,[],[],[],[]⟩ 0:=⟨rfl,rfl,rfl,rfl,List.Pairwise.nil,List.Pairwise.nil,Nat.le_refl _,Nat.le_refl _,fun a h=>(by cases h),fun a h=>(by cases h),fun a h=>(by cases h)⟩
theorem InvB.mono {m:Nat} (h:InvB me near b n) (hm:n≤m):InvB me near b m:={h with la:=Nat.le_trans h.la hm,ls:=Nat.le_trans h.ls hm}
theorem InvB.learn (h:InvB me near b n) (a:Advert) (hp:a.parent=-1∨a.parent∈near) (hr:PredOk a.pred):InvB me near (learnB b a).1 (n+1):=by
 unfold learnB
 split
 ·exact h.mono (Nat.le_succ n)
 ·rename_i hm
  refine ⟨h.me,h.near,h.ent,h.own,?_,?_,?_,?_,?_,?_,?_⟩
  ·exact ins_rising (fun a:Advert=>a.id) a h.ra (fun b hb e=>hm (by rw [←e];exact h.sub b hb))
  ·have:=ins_rising (fun x:ID=>x) a.id (l:=b.seen) (by simpa using h.rs) (fun b hb e=>hm (by rw [←e];exact hb))
   simpa using this
  ·simp only [ins_len];exact Nat.succ_le_succ h.la
  ·simp only [ins_len];exact Nat.succ_le_succ h.ls
  ·intro x hx
   rw [ins_mem]at hx ⊢
   rcases hx with rfl|hx
   ·exact .inl rfl
   ·exact .inr (h.sub x hx)
  ·intro x hx
   rw [ins_mem]at hx
   rcases hx with rfl|hx
   ·exact hp
   ·exact h.par x hx
  ·intro x hx
   rw [ins_mem]at hx
   rcases hx with rfl|hx
   ·exact hr
   ·exact h.prd x hx
theorem InvB.sized (h:InvB me near b n) (hn:n≤1000) (hl:near.length≤1000):Sized b:=⟨by rw [h.near];omega,by have:=h.la;omega,by have:=h.ls;omega,by rw [h.ent];decide,by rw [h.own];decide⟩
theorem InvB.right (h:InvB me near b n) (hn:risesB (fun x y=>decide (x<y)) near=true):rightB b=true:=by
 unfold rightB rightRows
 rw [h.near,h.ent,h.own,of_rising (key:=fun a:Advert=>a.id) h.ra,show risesB (fun x y=>ltID x y) b.seen=true from of_rising (key:=fun a:ID=>a) (by simpa using h.rs),hn]
 have:(b.adverts.any fun a=>!rightAdv b a)=false:=by
  rw [List.any_eq_false]
  intro a ha
  have h1:=h.sub a ha
  have h2:=h.par a ha
  have h3:=(h.prd a ha).right
  have h4:linkB b a.parent=true:=by
   unfold linkB
   rw [h.near]
   rcases h2 with e|e
   ·simp [e]
   ·simp [e]
  simp [rightAdv,h1,h3,h4]
 rw [this]
 rfl
end
def entO:Option DO→Option (List (DV×DV))
 | some (.mp es)=>some es
 | _=>none
theorem entriesV_map (h:Heap) (id:Nat):entriesV h (.map id)=entO (h.get id):=by
 simp only [entriesV,entO]
 cases h.get id with
 | none=>rfl
 | some o=>cases o<;>rfl
theorem entO_some (es:List (DV×DV)):entO (some (.mp es))=some es:=_root_.id rfl
def updO (h:Heap) (q:EqT) (id:Nat) (k x:DV):Option DO→Option Heap
 | some (.mp es)=>if h.lim≤id∧(eqBy q k k).isSome=true then
   match findU q k es with
   | some (some (i,_))=>some (h.set id (.mp (es.set i (k,x))))
   | some none=>some (h.set id (.mp (es++[(k,x)])))
   | none=>none
  else none
 | _=>none
theorem updateV_map (h:Heap) (q:EqT) (id:Nat) (k x:DV):updateV h q (.map id) k x=updO h q id k x (h.get id):=by
 simp only [updateV,updO]
 cases h.get id with
 | none=>rfl
 | some o=>cases o<;>rfl
end Go.Dm.Tc
/-
What functions of the program compute,part 13: is a constraint wider than another one?
-/
namespace Go.Dm.Tc
def beginsS (s p:List UInt8):Bool:=decide (p.length≤s.length) && (s.take p.length == p)
theorem s198 (s p:List UInt8):pcF D t198 [.str s,.str p]=some (.bool (beginsS s p)):=by
 unfold pcF
 rw [goRun_eq _ _ _ _ (by simp [t198])]
 by_cases h:p.length≤s.length
 ·have hs:sliceStrV (.str s) none (some (.int .i64 (p.length:Int)))=some (.str (s.take p.length)):=by
   simp only [sliceStrV]
   rw [boundV_nat _ _ _ _ h]
   simp only [boundV_none]
   simp
  simp [t198,h,hs,beginsS]
 ·simp [t198,h,beginsS]
theorem s166 (s p:List UInt8):pcF D t166 [.str s,.str p]=some (.bool (beginsS s p)):=by
 unfold pcF
 rw [goRun_eq _ _ _ _ (by simp [t166])]
 simp [t166,e198,s198]
theorem s168 (s:List UInt8):pcF D t168 [.str s]=some (eVal ⟨true,0,s⟩):=by
 unfold pcF
 rw [goRun_eq _ _ _ _ (by simp [t168])]
 simp [t168,turn,eVal]
def holdsT (c:Cons) (s:List UInt8):Bool:=if c.kind=2 then s == c.text else if c.kind=3 then beginsS s c.text else false
theorem s167 (nm:List UInt8) (k lo hi:Int) (tx:List UInt8) (s:List UInt8) :
  pcF D t167 [.agg [.str nm,.int .i64 k,.int .i64 lo,.int .i64 hi,.str tx],.agg [.bool true,.int .i64 0,.str s]]=some (.bool (holdsT ⟨nm,k,lo,hi,tx⟩ s)):=by
 unfold pcF
 rw [goRun_eq _ _ _ _ (by simp [t167])]
 by_cases k1:k=1
 ·subst k1
  simp [t167,holdsT]
 ·by_cases k2:k=2
  ·subst k2
   simp [t167,holdsT]
  ·by_cases k3:k=3
   ·subst k3
    simp [t167,holdsT,e166,s166]
   ·simp [t167,holdsT,k1,k2,k3]
def widerC (c x:Cons):Bool :=
 if x.kind=1 then decide (c.kind=1) && decide (c.lo≤x.lo) && decide (x.hi≤c.hi)
 else if x.kind=3 then decide (c.kind=3) && beginsS x.text c.text
 else if x.kind=2 then holdsT c x.text
 else false
theorem s130 (c x:Cons):pcF D t130 [.agg [.str c.name,.int .i64 c.kind,.int .i64 c.lo,.int .i64 c.hi,.str c.text],.agg [.str x.name,.int .i64 x.kind,.int .i64 x.lo,.int .i64 x.hi,.str x.text]]=some (.bool (widerC c x)):=by
 obtain ⟨nm,k,lo,hi,tx⟩:=c
 obtain ⟨nm',k',lo',hi',tx'⟩:=x
 unfold pcF
 rw [goRun_eq _ _ _ _ (by simp [t130])]
 simp only
 by_cases k1:k'=1
 ·subst k1
  by_cases j:k=1
  ·by_cases h1:lo≤lo'
   ·simp [t130,widerC,j,h1]
   ·simp [t130,widerC,j,h1]
  ·simp [t130,widerC,j]
 ·by_cases k3:k'=3
  ·subst k3
   by_cases j:k=3
   ·simp [t130,widerC,j,e166,s166]
   ·simp [t130,widerC,j]
  ·by_cases k2:k'=2
   ·subst k2
    simp [t130,widerC,e168,s168,eVal,e167,s167]
   ·simp [t130,widerC,k1,k2,k3]
end Go.Dm.Tc
