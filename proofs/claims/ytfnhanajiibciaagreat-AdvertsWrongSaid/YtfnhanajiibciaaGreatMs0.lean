/-
What functions of the library compute, part 1: searches, comparisons.
-/
import Derived.Test.YtfnhanajiibciaaGreatTcE
import Derived.Test.YtfnhanajiibciaaGreatMm4
set_option linter.all false
namespace Go.Dm.Tc
def idxOf:Option Nat→Int
 | some i=>i
 | none=>-1
theorem l146 (t:Bool) (xs:List Entry) (g:Nat) (cap:List DV) (p:Entry→Bool) (hg:∀x∈xs,∀h,fc D g ([eEntry x]++cap) h=some (.bool (p x),h)) (hl:xs.length≤1000000) :
  ∀(rest:List Entry) (i:Nat) (f:FEnv) (h:Heap),xs.drop i=rest→f 0=eL t 7 eEntry xs→f 1=.func g cap→f 7=.int .i64 xs.length→f 8=.int .i64 i →
  pcOut (fin [.t 4] (run D 19 [.block 0,.seq t146k0] (.loop t146l0) f h))=some (.int .i64 (idxOf ((rest.findIdx? p).map (·+i)))):=by
 intro rest
 induction rest with
 | nil =>
  intro i f h hd h0 h1 h7 h8
  have hi:=drop_nil hd
  have:¬(i<xs.length):=by omega
  rw [run_loop_of t146l0.eq_1]
  simp [t146k0,h7,h8,this,idxOf]
 | cons e rest ih =>
  intro i f h hd h0 h1 h7 h8
  obtain ⟨hi,he,hd'⟩:=drop_at hd
  have hgx:=hg e (by rw [←he];exact List.getElem_mem hi)
  simp only [eEntry,List.cons_append,List.nil_append]at hgx
  rw [run_loop_of t146l0.eq_1]
  cases hp:p e with
  | true=>simp [h0,h1,h7,h8,hi,he,eEntry,hgx,hp,idxOf,List.findIdx?_cons]
  | false =>
   simp [h0,h1,h7,h8,hi,he,eEntry,hgx,hp]
   rw [wrap64 (by omega) (by omega)]
   refine (ih (i+1) _ h hd' ?_ ?_ ?_ ?_).trans ?_<;>simp [h0,h1,h7,List.findIdx?_cons,hp]
   congr 2
   funext q
   simp
   omega
theorem s146 (t:Bool) (xs:List Entry) (g:Nat) (cap:List DV) (p:Entry→Bool) (hg:∀x∈xs,∀h,fc D g ([eEntry x]++cap) h=some (.bool (p x),h)) (hl:xs.length≤1000000) :
  pcF D t146 [eL t 7 eEntry xs,.func g cap]=some (.int .i64 (idxOf (xs.findIdx? p))):=by
 unfold pcF
 rw [goRun_eq _ _ _ _ (by simp [t146])]
 simp [t146]
 refine (l146 t xs g cap p hg hl xs 0 _ _ rfl ?_ ?_ ?_ ?_).trans ?_<;>simp
theorem l149 (t:Bool) (xs:List Advert) (g:Nat) (cap:List DV) (p:Advert→Bool) (hg:∀x∈xs,∀h,fc D g ([eAdvert x]++cap) h=some (.bool (p x),h)) (hl:xs.length≤1000000) :
  ∀(rest:List Advert) (i:Nat) (f:FEnv) (h:Heap),xs.drop i=rest→f 0=eL t 4 eAdvert xs→f 1=.func g cap→f 7=.int .i64 xs.length→f 8=.int .i64 i →
  pcOut (fin [.t 4] (run D 19 [.block 0,.seq t149k0] (.loop t149l0) f h))=some (.int .i64 (idxOf ((rest.findIdx? p).map (·+i)))):=by
 intro rest
 induction rest with
 | nil =>
  intro i f h hd h0 h1 h7 h8
  have hi:=drop_nil hd
  have:¬(i<xs.length):=by omega
  rw [run_loop_of t149l0.eq_1]
  simp [t149k0,h7,h8,this,idxOf]
 | cons e rest ih =>
  intro i f h hd h0 h1 h7 h8
  obtain ⟨hi,he,hd'⟩:=drop_at hd
  have hgx:=hg e (by rw [←he];exact List.getElem_mem hi)
  simp only [eAdvert,List.cons_append,List.nil_append]at hgx
  rw [run_loop_of t149l0.eq_1]
  cases hp:p e with
  | true=>simp [h0,h1,h7,h8,hi,he,eAdvert,hgx,hp,idxOf,List.findIdx?_cons]
  | false =>
   simp [h0,h1,h7,h8,hi,he,eAdvert,hgx,hp]
   rw [wrap64 (by omega) (by omega)]
   refine (ih (i+1) _ h hd' ?_ ?_ ?_ ?_).trans ?_<;>simp [h0,h1,h7,List.findIdx?_cons,hp]
   congr 2
   funext q
   simp
   omega
theorem s149 (t:Bool) (xs:List Advert) (g:Nat) (cap:List DV) (p:Advert→Bool) (hg:∀x∈xs,∀h,fc D g ([eAdvert x]++cap) h=some (.bool (p x),h)) (hl:xs.length≤1000000) :
  pcF D t149 [eL t 4 eAdvert xs,.func g cap]=some (.int .i64 (idxOf (xs.findIdx? p))):=by
 unfold pcF
 rw [goRun_eq _ _ _ _ (by simp [t149])]
 simp [t149]
 refine (l149 t xs g cap p hg hl xs 0 _ _ rfl ?_ ?_ ?_ ?_).trans ?_<;>simp
theorem l152 (t:Bool) (xs:List OwnS) (g:Nat) (cap:List DV) (p:OwnS→Bool) (hg:∀x∈xs,∀h,fc D g ([eOwn x]++cap) h=some (.bool (p x),h)) (hl:xs.length≤1000000) :
  ∀(rest:List OwnS) (i:Nat) (f:FEnv) (h:Heap),xs.drop i=rest→f 0=eL t 3 eOwn xs→f 1=.func g cap→f 7=.int .i64 xs.length→f 8=.int .i64 i →
  pcOut (fin [.t 4] (run D 19 [.block 0,.seq t152k0] (.loop t152l0) f h))=some (.int .i64 (idxOf ((rest.findIdx? p).map (·+i)))):=by
 intro rest
 induction rest with
 | nil =>
  intro i f h hd h0 h1 h7 h8
  have hi:=drop_nil hd
  have:¬(i<xs.length):=by omega
  rw [run_loop_of t152l0.eq_1]
  simp [t152k0,h7,h8,this,idxOf]
 | cons e rest ih =>
  intro i f h hd h0 h1 h7 h8
  obtain ⟨hi,he,hd'⟩:=drop_at hd
  have hgx:=hg e (by rw [←he];exact List.getElem_mem hi)
  simp only [eOwn,List.cons_append,List.nil_append]at hgx
  rw [run_loop_of t152l0.eq_1]
  cases hp:p e with
  | true=>simp [h0,h1,h7,h8,hi,he,eOwn,hgx,hp,idxOf,List.findIdx?_cons]
  | false =>
   simp [h0,h1,h7,h8,hi,he,eOwn,hgx,hp]
   rw [wrap64 (by omega) (by omega)]
   refine (ih (i+1) _ h hd' ?_ ?_ ?_ ?_).trans ?_<;>simp [h0,h1,h7,List.findIdx?_cons,hp]
   congr 2
   funext q
   simp
   omega
theorem s152 (t:Bool) (xs:List OwnS) (g:Nat) (cap:List DV) (p:OwnS→Bool) (hg:∀x∈xs,∀h,fc D g ([eOwn x]++cap) h=some (.bool (p x),h)) (hl:xs.length≤1000000) :
  pcF D t152 [eL t 3 eOwn xs,.func g cap]=some (.int .i64 (idxOf (xs.findIdx? p))):=by
 unfold pcF
 rw [goRun_eq _ _ _ _ (by simp [t152])]
 simp [t152]
 refine (l152 t xs g cap p hg hl xs 0 _ _ rfl ?_ ?_ ?_ ?_).trans ?_<;>simp
theorem idxOf_ge {α:Type} (p:α→Bool) (xs:List α):decide (0≤idxOf (xs.findIdx? p))=xs.any p:=by
 cases h:xs.findIdx? p with
 | none =>
  rw [List.findIdx?_eq_none_iff]at h
  simp only [idxOf]
  have:xs.any p=false:=by rw [List.any_eq_false];exact fun x hx=>by simp [h x hx]
  rw [this];rfl
 | some i =>
  have:=List.findIdx?_eq_some_iff_getElem.1 h
  obtain ⟨hi,hp,_⟩:=this
  have:xs.any p=true:=List.any_eq_true.2 ⟨_,List.getElem_mem hi,hp⟩
  rw [this]
  simp [idxOf]
theorem s106 (t:Bool) (xs:List Entry) (g:Nat) (cap:List DV) (p:Entry→Bool) (hc:∀x∈cap,Flat 20 x) (hg:∀x∈xs,∀h,fc D g ([eEntry x]++cap) h=some (.bool (p x),h)) (hl:xs.length≤1000000) :
  pcF D t106 [eL t 7 eEntry xs,.func g cap]=some (.bool (xs.any p)):=by
 unfold pcF
 rw [goRun_eq _ _ _ _ (by simp [t106])]
 have hf:∀tg h,resolve tg h 200 (.func g cap)=some (.func g cap):=fun tg h=>flat_func (k:=20) hc tg h 200 (by decide)
 simp [t106,e146,hf,-res_func,s146 t xs g cap p hg hl]
 have:=idxOf_ge p xs
 simpa using this
theorem s102 (t:Bool) (xs:List Advert) (g:Nat) (cap:List DV) (p:Advert→Bool) (hc:∀x∈cap,Flat 20 x) (hg:∀x∈xs,∀h,fc D g ([eAdvert x]++cap) h=some (.bool (p x),h)) (hl:xs.length≤1000000) :
  pcF D t102 [eL t 4 eAdvert xs,.func g cap]=some (.bool (xs.any p)):=by
 unfold pcF
 rw [goRun_eq _ _ _ _ (by simp [t102])]
 have hf:∀tg h,resolve tg h 200 (.func g cap)=some (.func g cap):=fun tg h=>flat_func (k:=20) hc tg h 200 (by decide)
 simp [t102,e149,hf,-res_func,s149 t xs g cap p hg hl]
 have:=idxOf_ge p xs
 simpa using this
theorem s109 (t:Bool) (xs:List OwnS) (g:Nat) (cap:List DV) (p:OwnS→Bool) (hc:∀x∈cap,Flat 20 x) (hg:∀x∈xs,∀h,fc D g ([eOwn x]++cap) h=some (.bool (p x),h)) (hl:xs.length≤1000000) :
  pcF D t109 [eL t 3 eOwn xs,.func g cap]=some (.bool (xs.any p)):=by
 unfold pcF
 rw [goRun_eq _ _ _ _ (by simp [t109])]
 have hf:∀tg h,resolve tg h 200 (.func g cap)=some (.func g cap):=fun tg h=>flat_func (k:=20) hc tg h 200 (by decide)
 simp [t109,e152,hf,-res_func,s152 t xs g cap p hg hl]
 have:=idxOf_ge p xs
 simpa using this
theorem l184 (t:Bool) (xs:List Int) (v:Int) (hl:xs.length≤1000000) :
  ∀(rest:List Int) (i:Nat) (f:FEnv) (h:Heap),xs.drop i=rest→f 0=eL t 1 cInt xs→f 1=.int .i64 v→f 7=.int .i64 xs.length→f 8=.int .i64 i →
  pcOut (fin [.t 4] (run D 19 [.block 0,.seq t184k0] (.loop t184l0) f h))=some (.int .i64 (idxOf ((rest.findIdx? (v == ·)).map (·+i)))):=by
 intro rest
 induction rest with
 | nil =>
  intro i f h hd h0 h1 h7 h8
  have hi:=drop_nil hd
  have:¬(i<xs.length):=by omega
  rw [run_loop_of t184l0.eq_1]
  simp [t184k0,h7,h8,this,idxOf]
 | cons e rest ih =>
  intro i f h hd h0 h1 h7 h8
  obtain ⟨hi,he,hd'⟩:=drop_at hd
  rw [run_loop_of t184l0.eq_1]
  by_cases hp:v=e
  ·simp [h0,h1,h7,h8,hi,he,cInt,hp,idxOf,List.findIdx?_cons]
  ·simp [h0,h1,h7,h8,hi,he,cInt,hp]
   rw [wrap64 (by omega) (by omega)]
   refine (ih (i+1) _ h hd' ?_ ?_ ?_ ?_).trans ?_<;>simp [h0,h1,h7,List.findIdx?_cons,hp,cInt]
   congr 2
   funext q
   simp
   omega
theorem s184 (t:Bool) (xs:List Int) (v:Int) (hl:xs.length≤1000000) :
  pcF D t184 [eL t 1 cInt xs,.int .i64 v]=some (.int .i64 (idxOf (xs.findIdx? (v == ·)))):=by
 unfold pcF
 rw [goRun_eq _ _ _ _ (by simp [t184])]
 simp [t184]
 refine (l184 t xs v hl xs 0 _ _ rfl ?_ ?_ ?_ ?_).trans ?_<;>simp
theorem s150 (t:Bool) (xs:List Int) (v:Int) (hl:xs.length≤1000000) :
  pcF D t150 [eL t 1 cInt xs,.int .i64 v]=some (.bool (xs.contains v)):=by
 unfold pcF
 rw [goRun_eq _ _ _ _ (by simp [t150])]
 simp [t150,e184,s184 t xs v hl]
 have:=idxOf_ge (v == ·) xs
 rw [←decide_eq_true_iff (p:=0≤_),this,List.any_eq_true]
 simp
theorem l82 (t u:Bool) (xs ys:List Int) (hl:xs.length≤1000000) (hxy:xs.length=ys.length) :
  ∀(rest rest':List Int) (i:Nat) (f:FEnv) (h:Heap),xs.drop i=rest→ys.drop i=rest'→f 0=eL t 1 cInt xs→f 1=eL u 1 cInt ys→f 12=.int .i64 xs.length→f 13=.int .i64 i →
  pcOut (fin [.t 4] (run D 26 [.block 0,.seq t82k0] (.loop t82l0) f h))=some (.bool (decide (rest=rest'))):=by
 intro rest
 induction rest with
 | nil =>
  intro rest' i f h hd hd1 h0 h1 h12 h13
  have hi:=drop_nil hd
  have:¬(i<xs.length):=by omega
  have hr:rest'=[]:=by rw [←hd1];exact List.drop_eq_nil_of_le (by omega)
  subst hr
  rw [run_loop_of t82l0.eq_1]
  simp [t82k0,h12,h13,this]
 | cons e rest ih =>
  intro rest' i f h hd hd1 h0 h1 h12 h13
  obtain ⟨hi,he,hd'⟩:=drop_at hd
  cases rest' with
  | nil=>have:=drop_nil hd1;omega
  | cons e' rest' =>
   obtain ⟨hi',he',hd1'⟩:=drop_at hd1
   rw [run_loop_of t82l0.eq_1]
   by_cases hp:e=e'
   ·subst hp
    simp [h0,h1,h12,h13,hi,hi',he,he',cInt]
    rw [wrap64 (by omega) (by omega)]
    refine (ih rest' (i+1) _ h hd' hd1' ?_ ?_ ?_ ?_).trans ?_<;>simp [h0,h1,h12,cInt]
   ·have hp':=hp
    first
     | rw [ID.mk.injEq]at hp'
     | (cases e;cases e';simp only [ID.mk.injEq,Cons.mk.injEq,not_and]at hp')
     | skip
    simp [h0,h1,h12,h13,hi,hi',he,he',cInt,hp,hp',-not_and]
    try (split<;>simp_all)
theorem s82 (t u:Bool) (xs ys:List Int) (hl:xs.length≤1000000) :
  pcF D t82 [eL t 1 cInt xs,eL u 1 cInt ys]=some (.bool (decide (xs=ys))):=by
 unfold pcF
 rw [goRun_eq _ _ _ _ (by simp [t82])]
 by_cases hxy:xs.length=ys.length
 ·simp [t82,hxy]
  refine (l82 t u xs ys hl hxy xs ys 0 _ _ rfl rfl ?_ ?_ ?_ ?_).trans ?_<;>simp [hxy]
 ·have:xs≠ys:=fun h=>hxy (by rw [h])
  have h2:¬((xs.length:Int)=ys.length):=by omega
  simp [t82,h2,this]
theorem l83 (t u:Bool) (xs ys:List ID) (hl:xs.length≤1000000) (hxy:xs.length=ys.length) :
  ∀(rest rest':List ID) (i:Nat) (f:FEnv) (h:Heap),xs.drop i=rest→ys.drop i=rest'→f 0=eL t 2 eID xs→f 1=eL u 2 eID ys→f 12=.int .i64 xs.length→f 13=.int .i64 i →
  pcOut (fin [.t 4] (run D 26 [.block 0,.seq t83k0] (.loop t83l0) f h))=some (.bool (decide (rest=rest'))):=by
 intro rest
 induction rest with
 | nil =>
  intro rest' i f h hd hd1 h0 h1 h12 h13
  have hi:=drop_nil hd
  have:¬(i<xs.length):=by omega
  have hr:rest'=[]:=by rw [←hd1];exact List.drop_eq_nil_of_le (by omega)
  subst hr
  rw [run_loop_of t83l0.eq_1]
  simp [t83k0,h12,h13,this]
 | cons e rest ih =>
  intro rest' i f h hd hd1 h0 h1 h12 h13
  obtain ⟨hi,he,hd'⟩:=drop_at hd
  cases rest' with
  | nil=>have:=drop_nil hd1;omega
  | cons e' rest' =>
   obtain ⟨hi',he',hd1'⟩:=drop_at hd1
   rw [run_loop_of t83l0.eq_1]
   by_cases hp:e=e'
   ·subst hp
    simp [h0,h1,h12,h13,hi,hi',he,he',eID]
    rw [wrap64 (by omega) (by omega)]
    refine (ih rest' (i+1) _ h hd' hd1' ?_ ?_ ?_ ?_).trans ?_<;>simp [h0,h1,h12,eID]
   ·have hp':=hp
    first
     | rw [ID.mk.injEq]at hp'
     | (cases e;cases e';simp only [ID.mk.injEq,Cons.mk.injEq,not_and]at hp')
     | skip
    simp [h0,h1,h12,h13,hi,hi',he,he',eID,hp,hp',-not_and]
    try (split<;>simp_all)
theorem s83 (t u:Bool) (xs ys:List ID) (hl:xs.length≤1000000) :
  pcF D t83 [eL t 2 eID xs,eL u 2 eID ys]=some (.bool (decide (xs=ys))):=by
 unfold pcF
 rw [goRun_eq _ _ _ _ (by simp [t83])]
 by_cases hxy:xs.length=ys.length
 ·simp [t83,hxy]
  refine (l83 t u xs ys hl hxy xs ys 0 _ _ rfl rfl ?_ ?_ ?_ ?_).trans ?_<;>simp [hxy]
 ·have:xs≠ys:=fun h=>hxy (by rw [h])
  have h2:¬((xs.length:Int)=ys.length):=by omega
  simp [t83,h2,this]
theorem l147 (t u:Bool) (xs ys:List Cons) (hl:xs.length≤1000000) (hxy:xs.length=ys.length) :
  ∀(rest rest':List Cons) (i:Nat) (f:FEnv) (h:Heap),xs.drop i=rest→ys.drop i=rest'→f 0=eL t 5 eCons xs→f 1=eL u 5 eCons ys→f 12=.int .i64 xs.length→f 13=.int .i64 i →
  pcOut (fin [.t 4] (run D 26 [.block 0,.seq t147k0] (.loop t147l0) f h))=some (.bool (decide (rest=rest'))):=by
 intro rest
 induction rest with
 | nil =>
  intro rest' i f h hd hd1 h0 h1 h12 h13
  have hi:=drop_nil hd
  have:¬(i<xs.length):=by omega
  have hr:rest'=[]:=by rw [←hd1];exact List.drop_eq_nil_of_le (by omega)
  subst hr
  rw [run_loop_of t147l0.eq_1]
  simp [t147k0,h12,h13,this]
 | cons e rest ih =>
  intro rest' i f h hd hd1 h0 h1 h12 h13
  obtain ⟨hi,he,hd'⟩:=drop_at hd
  cases rest' with
  | nil=>have:=drop_nil hd1;omega
  | cons e' rest' =>
   obtain ⟨hi',he',hd1'⟩:=drop_at hd1
   rw [run_loop_of t147l0.eq_1]
   by_cases hp:e=e'
   ·subst hp
    simp [h0,h1,h12,h13,hi,hi',he,he',eCons]
    rw [wrap64 (by omega) (by omega)]
    refine (ih rest' (i+1) _ h hd' hd1' ?_ ?_ ?_ ?_).trans ?_<;>simp [h0,h1,h12,eCons]
   ·have hp':=hp
    first
     | rw [ID.mk.injEq]at hp'
     | (cases e;cases e';simp only [ID.mk.injEq,Cons.mk.injEq,not_and]at hp')
     | skip
    simp [h0,h1,h12,h13,hi,hi',he,he',eCons,hp,hp',-not_and]
    try (split<;>simp_all)
theorem s147 (t u:Bool) (xs ys:List Cons) (hl:xs.length≤1000000) :
  pcF D t147 [eL t 5 eCons xs,eL u 5 eCons ys]=some (.bool (decide (xs=ys))):=by
 unfold pcF
 rw [goRun_eq _ _ _ _ (by simp [t147])]
 by_cases hxy:xs.length=ys.length
 ·simp [t147,hxy]
  refine (l147 t u xs ys hl hxy xs ys 0 _ _ rfl rfl ?_ ?_ ?_ ?_).trans ?_<;>simp [hxy]
 ·have:xs≠ys:=fun h=>hxy (by rw [h])
  have h2:¬((xs.length:Int)=ys.length):=by omega
  simp [t147,h2,this]
end Go.Dm.Tc
/-
What functions of the library compute,part 2: comparisons by a function,rows that rise,searches by halves.
-/
namespace Go.Dm.Tc
def allB {α β:Type} (p:α→β→Bool):List α→List β→Bool
 | [],[]=>true
 | a::r,b::s=>p a b && allB p r s
 | _,_=>false
def risesB {α:Type} (p:α→α→Bool):List α→Bool
 | a::b::r=>p a b && risesB p (b::r)
 | _=>true
theorem l87 (t u:Bool) (xs ys:List Entry) (g:Nat) (p:Entry→Entry→Bool) (hg:∀x∈xs,∀y∈ys,∀h,fc D g [eEntry x,eEntry y] h=some (.bool (p x y),h)) (hl:xs.length≤1000000) (hxy:xs.length=ys.length) :
  ∀(rest rest':List Entry) (i:Nat) (f:FEnv) (h:Heap),xs.drop i=rest→ys.drop i=rest'→f 1=eL u 7 eEntry ys→f 2=.func g []→f 15=eL t 7 eEntry xs→f 16=.int .i64 xs.length→f 17=.int .i64 i→h.lim=0 →
  pcOut (fin [.t 6] (run D 32 [.block 0,.seq t87k0] (.loop t87l0) f h))=some (.bool (allB p rest rest')):=by
 intro rest
 induction rest with
 | nil =>
  intro rest' i f h hd hd1 h1 h2 h15 h16 h17 hl0
  have hi:=drop_nil hd
  have:¬(i<xs.length):=by omega
  have hr:rest'=[]:=by rw [←hd1];exact List.drop_eq_nil_of_le (by omega)
  subst hr
  rw [run_loop_of t87l0.eq_1]
  simp [t87k0,h16,h17,this,allB]
 | cons e rest ih =>
  intro rest' i f h hd hd1 h1 h2 h15 h16 h17 hl0
  obtain ⟨hi,he,hd'⟩:=drop_at hd
  cases rest' with
  | nil=>have:=drop_nil hd1;omega
  | cons e' rest' =>
   obtain ⟨hi',he',hd1'⟩:=drop_at hd1
   have hgx:=hg e (by rw [←he];exact List.getElem_mem hi) e' (by rw [←he'];exact List.getElem_mem hi')
   simp only [eEntry]at hgx
   rw [run_loop_of t87l0.eq_1]
   cases hp:p e e' with
   | true =>
    simp [h1,h2,h15,h16,h17,hi,hi',he,he',eEntry,hl0,hgx,hp]
    rw [wrap64 (by omega) (by omega)]
    refine (ih rest' (i+1) _ _ hd' hd1' ?_ ?_ ?_ ?_ ?_ ?_).trans ?_<;>simp [h1,h2,h15,h16,hl0,allB,hp]
   | false =>
    simp [h1,h2,h15,h16,h17,hi,hi',he,he',eEntry,hl0,hgx,hp,allB]
theorem s87 (t u:Bool) (xs ys:List Entry) (g:Nat) (p:Entry→Entry→Bool) (hg:∀x∈xs,∀y∈ys,∀h,fc D g [eEntry x,eEntry y] h=some (.bool (p x y),h)) (hl:xs.length≤1000000) :
  pcF D t87 [eL t 7 eEntry xs,eL u 7 eEntry ys,.func g []]=some (.bool (allB p xs ys)):=by
 unfold pcF
 rw [goRun_eq _ _ _ _ (by simp [t87])]
 by_cases hxy:xs.length=ys.length
 ·simp [t87,hxy]
  refine (l87 t u xs ys g p hg hl hxy xs ys 0 _ _ rfl rfl ?_ ?_ ?_ ?_ ?_ ?_).trans ?_<;>simp [hxy]
 ·have:allB p xs ys=false:=by
   clear hg hl
   induction xs generalizing ys with
   | nil=>cases ys with
    | nil=>simp at hxy
    | cons y ys=>rfl
   | cons x xs ih=>cases ys with
    | nil=>rfl
    | cons y ys =>
     simp only [allB]
     rw [ih ys (by simpa using hxy)];simp
  have h2:¬((xs.length:Int)=ys.length):=by omega
  simp [t87,h2,this]
theorem l84 (t u:Bool) (xs ys:List Advert) (g:Nat) (p:Advert→Advert→Bool) (hg:∀x∈xs,∀y∈ys,∀h,fc D g [eAdvert x,eAdvert y] h=some (.bool (p x y),h)) (hl:xs.length≤1000000) (hxy:xs.length=ys.length) :
  ∀(rest rest':List Advert) (i:Nat) (f:FEnv) (h:Heap),xs.drop i=rest→ys.drop i=rest'→f 1=eL u 4 eAdvert ys→f 2=.func g []→f 15=eL t 4 eAdvert xs→f 16=.int .i64 xs.length→f 17=.int .i64 i→h.lim=0 →
  pcOut (fin [.t 6] (run D 32 [.block 0,.seq t84k0] (.loop t84l0) f h))=some (.bool (allB p rest rest')):=by
 intro rest
 induction rest with
 | nil =>
  intro rest' i f h hd hd1 h1 h2 h15 h16 h17 hl0
  have hi:=drop_nil hd
  have:¬(i<xs.length):=by omega
  have hr:rest'=[]:=by rw [←hd1];exact List.drop_eq_nil_of_le (by omega)
  subst hr
  rw [run_loop_of t84l0.eq_1]
  simp [t84k0,h16,h17,this,allB]
 | cons e rest ih =>
  intro rest' i f h hd hd1 h1 h2 h15 h16 h17 hl0
  obtain ⟨hi,he,hd'⟩:=drop_at hd
  cases rest' with
  | nil=>have:=drop_nil hd1;omega
  | cons e' rest' =>
   obtain ⟨hi',he',hd1'⟩:=drop_at hd1
   have hgx:=hg e (by rw [←he];exact List.getElem_mem hi) e' (by rw [←he'];exact List.getElem_mem hi')
   simp only [eAdvert]at hgx
   rw [run_loop_of t84l0.eq_1]
   cases hp:p e e' with
   | true =>
    simp [h1,h2,h15,h16,h17,hi,hi',he,he',eAdvert,hl0,hgx,hp]
    rw [wrap64 (by omega) (by omega)]
    refine (ih rest' (i+1) _ _ hd' hd1' ?_ ?_ ?_ ?_ ?_ ?_).trans ?_<;>simp [h1,h2,h15,h16,hl0,allB,hp]
   | false =>
    simp [h1,h2,h15,h16,h17,hi,hi',he,he',eAdvert,hl0,hgx,hp,allB]
theorem s84 (t u:Bool) (xs ys:List Advert) (g:Nat) (p:Advert→Advert→Bool) (hg:∀x∈xs,∀y∈ys,∀h,fc D g [eAdvert x,eAdvert y] h=some (.bool (p x y),h)) (hl:xs.length≤1000000) :
  pcF D t84 [eL t 4 eAdvert xs,eL u 4 eAdvert ys,.func g []]=some (.bool (allB p xs ys)):=by
 unfold pcF
 rw [goRun_eq _ _ _ _ (by simp [t84])]
 by_cases hxy:xs.length=ys.length
 ·simp [t84,hxy]
  refine (l84 t u xs ys g p hg hl hxy xs ys 0 _ _ rfl rfl ?_ ?_ ?_ ?_ ?_ ?_).trans ?_<;>simp [hxy]
 ·have:allB p xs ys=false:=by
   clear hg hl
   induction xs generalizing ys with
   | nil=>cases ys with
    | nil=>simp at hxy
    | cons y ys=>rfl
   | cons x xs ih=>cases ys with
    | nil=>rfl
    | cons y ys =>
     simp only [allB]
     rw [ih ys (by simpa using hxy)];simp
  have h2:¬((xs.length:Int)=ys.length):=by omega
  simp [t84,h2,this]
theorem l89 (t u:Bool) (xs ys:List OwnS) (g:Nat) (p:OwnS→OwnS→Bool) (hg:∀x∈xs,∀y∈ys,∀h,fc D g [eOwn x,eOwn y] h=some (.bool (p x y),h)) (hl:xs.length≤1000000) (hxy:xs.length=ys.length) :
  ∀(rest rest':List OwnS) (i:Nat) (f:FEnv) (h:Heap),xs.drop i=rest→ys.drop i=rest'→f 1=eL u 3 eOwn ys→f 2=.func g []→f 15=eL t 3 eOwn xs→f 16=.int .i64 xs.length→f 17=.int .i64 i→h.lim=0 →
  pcOut (fin [.t 6] (run D 32 [.block 0,.seq t89k0] (.loop t89l0) f h))=some (.bool (allB p rest rest')):=by
 intro rest
 induction rest with
 | nil =>
  intro rest' i f h hd hd1 h1 h2 h15 h16 h17 hl0
  have hi:=drop_nil hd
  have:¬(i<xs.length):=by omega
  have hr:rest'=[]:=by rw [←hd1];exact List.drop_eq_nil_of_le (by omega)
  subst hr
  rw [run_loop_of t89l0.eq_1]
  simp [t89k0,h16,h17,this,allB]
 | cons e rest ih =>
  intro rest' i f h hd hd1 h1 h2 h15 h16 h17 hl0
  obtain ⟨hi,he,hd'⟩:=drop_at hd
  cases rest' with
  | nil=>have:=drop_nil hd1;omega
  | cons e' rest' =>
   obtain ⟨hi',he',hd1'⟩:=drop_at hd1
   have hgx:=hg e (by rw [←he];exact List.getElem_mem hi) e' (by rw [←he'];exact List.getElem_mem hi')
   simp only [eOwn]at hgx
   rw [run_loop_of t89l0.eq_1]
   cases hp:p e e' with
   | true =>
    simp [h1,h2,h15,h16,h17,hi,hi',he,he',eOwn,hl0,hgx,hp]
    rw [wrap64 (by omega) (by omega)]
    refine (ih rest' (i+1) _ _ hd' hd1' ?_ ?_ ?_ ?_ ?_ ?_).trans ?_<;>simp [h1,h2,h15,h16,hl0,allB,hp]
   | false =>
    simp [h1,h2,h15,h16,h17,hi,hi',he,he',eOwn,hl0,hgx,hp,allB]
theorem s89 (t u:Bool) (xs ys:List OwnS) (g:Nat) (p:OwnS→OwnS→Bool) (hg:∀x∈xs,∀y∈ys,∀h,fc D g [eOwn x,eOwn y] h=some (.bool (p x y),h)) (hl:xs.length≤1000000) :
  pcF D t89 [eL t 3 eOwn xs,eL u 3 eOwn ys,.func g []]=some (.bool (allB p xs ys)):=by
 unfold pcF
 rw [goRun_eq _ _ _ _ (by simp [t89])]
 by_cases hxy:xs.length=ys.length
 ·simp [t89,hxy]
  refine (l89 t u xs ys g p hg hl hxy xs ys 0 _ _ rfl rfl ?_ ?_ ?_ ?_ ?_ ?_).trans ?_<;>simp [hxy]
 ·have:allB p xs ys=false:=by
   clear hg hl
   induction xs generalizing ys with
   | nil=>cases ys with
    | nil=>simp at hxy
    | cons y ys=>rfl
   | cons x xs ih=>cases ys with
    | nil=>rfl
    | cons y ys =>
     simp only [allB]
     rw [ih ys (by simpa using hxy)];simp
  have h2:¬((xs.length:Int)=ys.length):=by omega
  simp [t89,h2,this]
theorem l91 (t:Bool) (xs:List Int) (g:Nat) (p:Int→Int→Bool) (hg:∀x∈xs,∀y∈xs,∀h,fc D g [cInt x,cInt y] h=some (.bool (p x y),h)) (hl:xs.length≤1000000) :
  ∀(rest:List Int) (a:Int) (i:Nat) (f:FEnv) (h:Heap),xs.drop i=a::rest→f 0=eL t 1 cInt xs→f 1=.func g []→f 5=.int .i64 ((i:Int)+1) →
  pcOut (fin [.t 4] (run D 24 [.block 0,.seq t91k0] (.loop t91l0) f h))=some (.bool (risesB p (a::rest))):=by
 intro rest
 induction rest with
 | nil =>
  intro a i f h hd h0 h1 h5
  obtain ⟨hi,he,hd'⟩:=drop_at hd
  have hi:=drop_nil hd'
  have:¬((i:Int)+1<xs.length):=by omega
  rw [run_loop_of t91l0.eq_1]
  simp [t91k0,h0,h5,this,risesB]
 | cons e rest ih =>
  intro a i f h hd h0 h1 h5
  obtain ⟨hi,he,hd'⟩:=drop_at hd
  obtain ⟨hi',he',hd''⟩:=drop_at hd'
  have hgx:=hg a (by rw [←he];exact List.getElem_mem hi) e (by rw [←he'];exact List.getElem_mem hi')
  simp only [cInt]at hgx
  have hlt:(i:Int)+1<xs.length:=by omega
  have hw:IntKind.i64.wrap (i:Int)=i:=wrap64 (by omega) (by omega)
  rw [run_loop_of t91l0.eq_1]
  cases hp:p a e with
  | true =>
   simp [h0,h1,h5,hi,hi',he,he',cInt,hgx,hp,hlt,hw]
   rw [wrap64 (by omega) (by omega)]
   refine (ih e (i+1) _ _ hd' ?_ ?_ ?_).trans ?_<;>simp [h0,h1,risesB,hp,cInt]
  | false =>
   simp [h0,h1,h5,hi,hi',he,he',cInt,hgx,hp,hlt,hw,risesB]
theorem s91 (t:Bool) (xs:List Int) (g:Nat) (p:Int→Int→Bool) (hg:∀x∈xs,∀y∈xs,∀h,fc D g [cInt x,cInt y] h=some (.bool (p x y),h)) (hl:xs.length≤1000000) :
  pcF D t91 [eL t 1 cInt xs,.func g []]=some (.bool (risesB p xs)):=by
 unfold pcF
 rw [goRun_eq _ _ _ _ (by simp [t91])]
 simp [t91]
 cases xs with
 | nil =>
  rw [run_loop_of t91l0.eq_1]
  simp [t91k0,risesB]
 | cons a r=>refine (l91 t (a::r) g p hg hl r a 0 _ _ rfl ?_ ?_ ?_).trans ?_<;>simp
theorem l93 (t:Bool) (xs:List ID) (g:Nat) (p:ID→ID→Bool) (hg:∀x∈xs,∀y∈xs,∀h,fc D g [eID x,eID y] h=some (.bool (p x y),h)) (hl:xs.length≤1000000) :
  ∀(rest:List ID) (a:ID) (i:Nat) (f:FEnv) (h:Heap),xs.drop i=a::rest→f 0=eL t 2 eID xs→f 1=.func g []→f 5=.int .i64 ((i:Int)+1) →
  pcOut (fin [.t 4] (run D 24 [.block 0,.seq t93k0] (.loop t93l0) f h))=some (.bool (risesB p (a::rest))):=by
 intro rest
 induction rest with
 | nil =>
  intro a i f h hd h0 h1 h5
  obtain ⟨hi,he,hd'⟩:=drop_at hd
  have hi:=drop_nil hd'
  have:¬((i:Int)+1<xs.length):=by omega
  rw [run_loop_of t93l0.eq_1]
  simp [t93k0,h0,h5,this,risesB]
 | cons e rest ih =>
  intro a i f h hd h0 h1 h5
  obtain ⟨hi,he,hd'⟩:=drop_at hd
  obtain ⟨hi',he',hd''⟩:=drop_at hd'
  have hgx:=hg a (by rw [←he];exact List.getElem_mem hi) e (by rw [←he'];exact List.getElem_mem hi')
  simp only [eID]at hgx
  have hlt:(i:Int)+1<xs.length:=by omega
  have hw:IntKind.i64.wrap (i:Int)=i:=wrap64 (by omega) (by omega)
  rw [run_loop_of t93l0.eq_1]
  cases hp:p a e with
  | true =>
   simp [h0,h1,h5,hi,hi',he,he',eID,hgx,hp,hlt,hw]
   rw [wrap64 (by omega) (by omega)]
   refine (ih e (i+1) _ _ hd' ?_ ?_ ?_).trans ?_<;>simp [h0,h1,risesB,hp,eID]
  | false =>
   simp [h0,h1,h5,hi,hi',he,he',eID,hgx,hp,hlt,hw,risesB]
theorem s93 (t:Bool) (xs:List ID) (g:Nat) (p:ID→ID→Bool) (hg:∀x∈xs,∀y∈xs,∀h,fc D g [eID x,eID y] h=some (.bool (p x y),h)) (hl:xs.length≤1000000) :
  pcF D t93 [eL t 2 eID xs,.func g []]=some (.bool (risesB p xs)):=by
 unfold pcF
 rw [goRun_eq _ _ _ _ (by simp [t93])]
 simp [t93]
 cases xs with
 | nil =>
  rw [run_loop_of t93l0.eq_1]
  simp [t93k0,risesB]
 | cons a r=>refine (l93 t (a::r) g p hg hl r a 0 _ _ rfl ?_ ?_ ?_).trans ?_<;>simp
theorem l98 (t:Bool) (xs:List Entry) (g:Nat) (p:Entry→Entry→Bool) (hg:∀x∈xs,∀y∈xs,∀h,fc D g [eEntry x,eEntry y] h=some (.bool (p x y),h)) (hl:xs.length≤1000000) :
  ∀(rest:List Entry) (a:Entry) (i:Nat) (f:FEnv) (h:Heap),xs.drop i=a::rest→f 0=eL t 7 eEntry xs→f 1=.func g []→f 5=.int .i64 ((i:Int)+1) →
  pcOut (fin [.t 4] (run D 24 [.block 0,.seq t98k0] (.loop t98l0) f h))=some (.bool (risesB p (a::rest))):=by
 intro rest
 induction rest with
 | nil =>
  intro a i f h hd h0 h1 h5
  obtain ⟨hi,he,hd'⟩:=drop_at hd
  have hi:=drop_nil hd'
  have:¬((i:Int)+1<xs.length):=by omega
  rw [run_loop_of t98l0.eq_1]
  simp [t98k0,h0,h5,this,risesB]
 | cons e rest ih =>
  intro a i f h hd h0 h1 h5
  obtain ⟨hi,he,hd'⟩:=drop_at hd
  obtain ⟨hi',he',hd''⟩:=drop_at hd'
  have hgx:=hg a (by rw [←he];exact List.getElem_mem hi) e (by rw [←he'];exact List.getElem_mem hi')
  simp only [eEntry]at hgx
  have hlt:(i:Int)+1<xs.length:=by omega
  have hw:IntKind.i64.wrap (i:Int)=i:=wrap64 (by omega) (by omega)
  rw [run_loop_of t98l0.eq_1]
  cases hp:p a e with
  | true =>
   simp [h0,h1,h5,hi,hi',he,he',eEntry,hgx,hp,hlt,hw]
   rw [wrap64 (by omega) (by omega)]
   refine (ih e (i+1) _ _ hd' ?_ ?_ ?_).trans ?_<;>simp [h0,h1,risesB,hp,eEntry]
  | false =>
   simp [h0,h1,h5,hi,hi',he,he',eEntry,hgx,hp,hlt,hw,risesB]
theorem s98 (t:Bool) (xs:List Entry) (g:Nat) (p:Entry→Entry→Bool) (hg:∀x∈xs,∀y∈xs,∀h,fc D g [eEntry x,eEntry y] h=some (.bool (p x y),h)) (hl:xs.length≤1000000) :
  pcF D t98 [eL t 7 eEntry xs,.func g []]=some (.bool (risesB p xs)):=by
 unfold pcF
 rw [goRun_eq _ _ _ _ (by simp [t98])]
 simp [t98]
 cases xs with
 | nil =>
  rw [run_loop_of t98l0.eq_1]
  simp [t98k0,risesB]
 | cons a r=>refine (l98 t (a::r) g p hg hl r a 0 _ _ rfl ?_ ?_ ?_).trans ?_<;>simp
theorem l94 (t:Bool) (xs:List Advert) (g:Nat) (p:Advert→Advert→Bool) (hg:∀x∈xs,∀y∈xs,∀h,fc D g [eAdvert x,eAdvert y] h=some (.bool (p x y),h)) (hl:xs.length≤1000000) :
  ∀(rest:List Advert) (a:Advert) (i:Nat) (f:FEnv) (h:Heap),xs.drop i=a::rest→f 0=eL t 4 eAdvert xs→f 1=.func g []→f 5=.int .i64 ((i:Int)+1) →
  pcOut (fin [.t 4] (run D 24 [.block 0,.seq t94k0] (.loop t94l0) f h))=some (.bool (risesB p (a::rest))):=by
 intro rest
 induction rest with
 | nil =>
  intro a i f h hd h0 h1 h5
  obtain ⟨hi,he,hd'⟩:=drop_at hd
  have hi:=drop_nil hd'
  have:¬((i:Int)+1<xs.length):=by omega
  rw [run_loop_of t94l0.eq_1]
  simp [t94k0,h0,h5,this,risesB]
 | cons e rest ih =>
  intro a i f h hd h0 h1 h5
  obtain ⟨hi,he,hd'⟩:=drop_at hd
  obtain ⟨hi',he',hd''⟩:=drop_at hd'
  have hgx:=hg a (by rw [←he];exact List.getElem_mem hi) e (by rw [←he'];exact List.getElem_mem hi')
  simp only [eAdvert]at hgx
  have hlt:(i:Int)+1<xs.length:=by omega
  have hw:IntKind.i64.wrap (i:Int)=i:=wrap64 (by omega) (by omega)
  rw [run_loop_of t94l0.eq_1]
  cases hp:p a e with
  | true =>
   simp [h0,h1,h5,hi,hi',he,he',eAdvert,hgx,hp,hlt,hw]
   rw [wrap64 (by omega) (by omega)]
   refine (ih e (i+1) _ _ hd' ?_ ?_ ?_).trans ?_<;>simp [h0,h1,risesB,hp,eAdvert]
  | false =>
   simp [h0,h1,h5,hi,hi',he,he',eAdvert,hgx,hp,hlt,hw,risesB]
theorem s94 (t:Bool) (xs:List Advert) (g:Nat) (p:Advert→Advert→Bool) (hg:∀x∈xs,∀y∈xs,∀h,fc D g [eAdvert x,eAdvert y] h=some (.bool (p x y),h)) (hl:xs.length≤1000000) :
  pcF D t94 [eL t 4 eAdvert xs,.func g []]=some (.bool (risesB p xs)):=by
 unfold pcF
 rw [goRun_eq _ _ _ _ (by simp [t94])]
 simp [t94]
 cases xs with
 | nil =>
  rw [run_loop_of t94l0.eq_1]
  simp [t94k0,risesB]
 | cons a r=>refine (l94 t (a::r) g p hg hl r a 0 _ _ rfl ?_ ?_ ?_).trans ?_<;>simp
theorem l96 (t:Bool) (xs:List OwnS) (g:Nat) (p:OwnS→OwnS→Bool) (hg:∀x∈xs,∀y∈xs,∀h,fc D g [eOwn x,eOwn y] h=some (.bool (p x y),h)) (hl:xs.length≤1000000) :
  ∀(rest:List OwnS) (a:OwnS) (i:Nat) (f:FEnv) (h:Heap),xs.drop i=a::rest→f 0=eL t 3 eOwn xs→f 1=.func g []→f 5=.int .i64 ((i:Int)+1) →
  pcOut (fin [.t 4] (run D 24 [.block 0,.seq t96k0] (.loop t96l0) f h))=some (.bool (risesB p (a::rest))):=by
 intro rest
 induction rest with
 | nil =>
  intro a i f h hd h0 h1 h5
  obtain ⟨hi,he,hd'⟩:=drop_at hd
  have hi:=drop_nil hd'
  have:¬((i:Int)+1<xs.length):=by omega
  rw [run_loop_of t96l0.eq_1]
  simp [t96k0,h0,h5,this,risesB]
 | cons e rest ih =>
  intro a i f h hd h0 h1 h5
  obtain ⟨hi,he,hd'⟩:=drop_at hd
  obtain ⟨hi',he',hd''⟩:=drop_at hd'
  have hgx:=hg a (by rw [←he];exact List.getElem_mem hi) e (by rw [←he'];exact List.getElem_mem hi')
  simp only [eOwn]at hgx
  have hlt:(i:Int)+1<xs.length:=by omega
  have hw:IntKind.i64.wrap (i:Int)=i:=wrap64 (by omega) (by omega)
  rw [run_loop_of t96l0.eq_1]
  cases hp:p a e with
  | true =>
   simp [h0,h1,h5,hi,hi',he,he',eOwn,hgx,hp,hlt,hw]
   rw [wrap64 (by omega) (by omega)]
   refine (ih e (i+1) _ _ hd' ?_ ?_ ?_).trans ?_<;>simp [h0,h1,risesB,hp,eOwn]
  | false =>
   simp [h0,h1,h5,hi,hi',he,he',eOwn,hgx,hp,hlt,hw,risesB]
theorem s96 (t:Bool) (xs:List OwnS) (g:Nat) (p:OwnS→OwnS→Bool) (hg:∀x∈xs,∀y∈xs,∀h,fc D g [eOwn x,eOwn y] h=some (.bool (p x y),h)) (hl:xs.length≤1000000) :
  pcF D t96 [eL t 3 eOwn xs,.func g []]=some (.bool (risesB p xs)):=by
 unfold pcF
 rw [goRun_eq _ _ _ _ (by simp [t96])]
 simp [t96]
 cases xs with
 | nil =>
  rw [run_loop_of t96l0.eq_1]
  simp [t96k0,risesB]
 | cons a r=>refine (l96 t (a::r) g p hg hl r a 0 _ _ rfl ?_ ?_ ?_).trans ?_<;>simp
end Go.Dm.Tc
/-
What functions of the library compute,part 3: the search by halves.
-/
namespace Go.Dm.Tc
def lowIdx {α:Type} (cm:α→Int) (xs:List α):Nat:=xs.findIdx fun x=>!decide (cm x<0)
def hitAt {α:Type} (cm:α→Int) (xs:List α):Bool:=match xs[lowIdx cm xs]? with|some x=>decide (cm x=0)|none=>false
theorem lowIdx_le {α:Type} (cm:α→Int) (xs:List α):lowIdx cm xs≤xs.length:=List.findIdx_le_length
theorem lowIdx_eq {α:Type} {cm:α→Int} {xs:List α} {k:Nat} (hk:k≤xs.length) (h1:∀q (hq:q<k),cm (xs[q]'(by omega))<0) (h2:∀(hq:k<xs.length),¬cm xs[k]<0):lowIdx cm xs=k:=by
 unfold lowIdx
 rcases Nat.lt_or_eq_of_le hk with hlt|rfl
 ·rw [List.findIdx_eq hlt]
  refine ⟨by simpa using h2 hlt,fun j hj=>by simpa using h1 j hj⟩
 ·rw [List.findIdx_eq_length]
  intro x hx
  obtain ⟨i,hi,rfl⟩:=List.mem_iff_getElem.1 hx
  simpa using h1 i hi
theorem l139 (t:Bool) (xs:List ID) (c s:Int) (g:Nat) (cap:List DV) (cm:ID→Int) (hg:∀x∈xs,∀h,fc D g ([eID x,.agg [.int .i64 c,.int .i64 s]]++cap) h=some (.int .i64 (cm x),h)) (hl:xs.length≤1000000)
  (hm:∀i j (hi:i<xs.length) (hj:j<xs.length),i≤j→cm xs[j]<0→cm xs[i]<0) (h:Heap) (cp:Option Nat) (hg0:h.get 0=some (.arr 37 2 [.agg [.int .i64 c,.int .i64 s]] cp)) :
  ∀(n i j:Nat) (f:FEnv),j-i=n→i≤j→j≤xs.length→f 0=eL t 2 eID xs→f 2=.func g cap→f 4=.ptr 0 2 0 0→f 8=.int .i64 xs.length→f 9=.int .i64 i→f 10=.int .i64 j →
  (∀q (hq:q<i),(hq':q<xs.length)→cm xs[q]<0)→(∀q (hq:q<xs.length),j≤q→¬cm xs[q]<0) →
  pcOut (fin [.t 6,.t 7] (run D 49 [.block 0,.seq t139k0] (.loop t139l0) f h))=some (.tup [.int .i64 (lowIdx cm xs),.bool (hitAt cm xs)]):=by
 intro n
 induction n using Nat.strongRecOn with
 | ind n ih =>
  intro i j f hn hij hj h0 h2 h4 h8 h9 h10 hlow hhigh
  rw [run_loop_of t139l0.eq_1]
  by_cases hlt:i<j
  ·have hk:(i+j) / 2<xs.length:=by omega
   have hke:xs[(i+j) / 2]?=some xs[(i+j) / 2]:=List.getElem?_eq_getElem hk
   have hgx:=hg xs[(i+j) / 2] (List.getElem_mem hk)
   simp only [eID,List.cons_append,List.nil_append]at hgx
   have w1:IntKind.i64.wrap ((i:Int)+j)=((i:Int)+j):=wrap64 (by omega) (by omega)
   have w2:IntKind.u64.wrap ((i:Int)+j)=((i:Int)+j):=wrapu64 (by omega) (by omega)
   have w3:IntKind.i64.wrap (((i+j) / 2:Nat):Int)=((i+j) / 2:Nat):=wrap64 (by omega) (by omega)
   have w4:IntKind.i64.wrap ((((i+j) / 2:Nat):Int)+1)=((((i+j) / 2:Nat):Int)+1):=wrap64 (by omega) (by omega)
   by_cases hc:cm xs[(i+j) / 2]<0
   ·simp [h0,h2,h4,h8,h9,h10,hlt,hk,hke,hg0,hgx,eID,w1,w2,w3,w4,hc,-Int.natCast_ediv]
    refine ih (j-((i+j) / 2+1)) (by omega) ((i+j) / 2+1) j _ rfl (by omega) hj ?_ ?_ ?_ ?_ ?_ ?_ ?_ hhigh<;>try simp [h0,h2,h4,h8,h10,eID]
    intro q hq hq'
    exact hm q ((i+j) / 2) hq' hk (by omega) hc
   ·simp [h0,h2,h4,h8,h9,h10,hlt,hk,hke,hg0,hgx,eID,w1,w2,w3,w4,hc,-Int.natCast_ediv]
    refine ih ((i+j) / 2-i) (by omega) i ((i+j) / 2) _ rfl (by omega) (by omega) ?_ ?_ ?_ ?_ ?_ ?_ hlow ?_<;>simp [h0,h2,h4,h8,h9,eID]
    intro q hq hq'
    exact Int.not_lt.1 fun hx=>hc (hm ((i+j) / 2) q hk hq hq' hx)
  ·have hij':i=j:=by omega
   subst hij'
   have hlo:lowIdx cm xs=i:=lowIdx_eq hj (fun q hq=>hlow q hq (by omega)) (fun hq=>hhigh i hq (Nat.le_refl i))
   by_cases hi:i<xs.length
   ·have hgx:=hg xs[i] (List.getElem_mem hi)
    simp only [eID,List.cons_append,List.nil_append]at hgx
    have hke:xs[i]?=some xs[i]:=List.getElem?_eq_getElem hi
    simp [t139k0,h0,h2,h4,h8,h9,h10,hi,hke,hg0,hgx,eID,hlo,hitAt,resultsOf]
    rfl
   ·simp [t139k0,h0,h2,h4,h8,h9,h10,hi,hlo,hitAt,resultsOf]
theorem s139 (t:Bool) (xs:List ID) (c s:Int) (g:Nat) (cap:List DV) (cm:ID→Int) (hg:∀x∈xs,∀h,fc D g ([eID x,.agg [.int .i64 c,.int .i64 s]]++cap) h=some (.int .i64 (cm x),h)) (hl:xs.length≤1000000)
  (hm:∀i j (hi:i<xs.length) (hj:j<xs.length),i≤j→cm xs[j]<0→cm xs[i]<0) :
  pcF D t139 [eL t 2 eID xs,.agg [.int .i64 c,.int .i64 s],.func g cap]=some (.tup [.int .i64 (lowIdx cm xs),.bool (hitAt cm xs)]):=by
 unfold pcF
 rw [goRun_eq _ _ _ _ (by simp [t139])]
 simp [t139]
 refine l139 t xs c s g cap cm hg hl hm _ (some 1) (by simp) xs.length 0 xs.length _ (by omega) (by omega) (by omega) ?_ ?_ ?_ ?_ ?_ ?_ ?_ ?_<;>simp
 intro q hq hq'
 omega
theorem l140 (t:Bool) (xs:List Advert) (c s:Int) (g:Nat) (cap:List DV) (cm:Advert→Int) (hg:∀x∈xs,∀h,fc D g ([eAdvert x,.agg [.int .i64 c,.int .i64 s]]++cap) h=some (.int .i64 (cm x),h)) (hl:xs.length≤1000000)
  (hm:∀i j (hi:i<xs.length) (hj:j<xs.length),i≤j→cm xs[j]<0→cm xs[i]<0) (h:Heap) (cp:Option Nat) (hg0:h.get 0=some (.arr 37 2 [.agg [.int .i64 c,.int .i64 s]] cp)) :
  ∀(n i j:Nat) (f:FEnv),j-i=n→i≤j→j≤xs.length→f 0=eL t 4 eAdvert xs→f 2=.func g cap→f 4=.ptr 0 2 0 0→f 8=.int .i64 xs.length→f 9=.int .i64 i→f 10=.int .i64 j →
  (∀q (hq:q<i),(hq':q<xs.length)→cm xs[q]<0)→(∀q (hq:q<xs.length),j≤q→¬cm xs[q]<0) →
  pcOut (fin [.t 6,.t 7] (run D 49 [.block 0,.seq t140k0] (.loop t140l0) f h))=some (.tup [.int .i64 (lowIdx cm xs),.bool (hitAt cm xs)]):=by
 intro n
 induction n using Nat.strongRecOn with
 | ind n ih =>
  intro i j f hn hij hj h0 h2 h4 h8 h9 h10 hlow hhigh
  rw [run_loop_of t140l0.eq_1]
  by_cases hlt:i<j
  ·have hk:(i+j) / 2<xs.length:=by omega
   have hke:xs[(i+j) / 2]?=some xs[(i+j) / 2]:=List.getElem?_eq_getElem hk
   have hgx:=hg xs[(i+j) / 2] (List.getElem_mem hk)
   simp only [eAdvert,List.cons_append,List.nil_append]at hgx
   have w1:IntKind.i64.wrap ((i:Int)+j)=((i:Int)+j):=wrap64 (by omega) (by omega)
   have w2:IntKind.u64.wrap ((i:Int)+j)=((i:Int)+j):=wrapu64 (by omega) (by omega)
   have w3:IntKind.i64.wrap (((i+j) / 2:Nat):Int)=((i+j) / 2:Nat):=wrap64 (by omega) (by omega)
   have w4:IntKind.i64.wrap ((((i+j) / 2:Nat):Int)+1)=((((i+j) / 2:Nat):Int)+1):=wrap64 (by omega) (by omega)
   by_cases hc:cm xs[(i+j) / 2]<0
   ·simp [h0,h2,h4,h8,h9,h10,hlt,hk,hke,hg0,hgx,eAdvert,w1,w2,w3,w4,hc,-Int.natCast_ediv]
    refine ih (j-((i+j) / 2+1)) (by omega) ((i+j) / 2+1) j _ rfl (by omega) hj ?_ ?_ ?_ ?_ ?_ ?_ ?_ hhigh<;>try simp [h0,h2,h4,h8,h10,eAdvert]
    intro q hq hq'
    exact hm q ((i+j) / 2) hq' hk (by omega) hc
   ·simp [h0,h2,h4,h8,h9,h10,hlt,hk,hke,hg0,hgx,eAdvert,w1,w2,w3,w4,hc,-Int.natCast_ediv]
    refine ih ((i+j) / 2-i) (by omega) i ((i+j) / 2) _ rfl (by omega) (by omega) ?_ ?_ ?_ ?_ ?_ ?_ hlow ?_<;>simp [h0,h2,h4,h8,h9,eAdvert]
    intro q hq hq'
    exact Int.not_lt.1 fun hx=>hc (hm ((i+j) / 2) q hk hq hq' hx)
  ·have hij':i=j:=by omega
   subst hij'
   have hlo:lowIdx cm xs=i:=lowIdx_eq hj (fun q hq=>hlow q hq (by omega)) (fun hq=>hhigh i hq (Nat.le_refl i))
   by_cases hi:i<xs.length
   ·have hgx:=hg xs[i] (List.getElem_mem hi)
    simp only [eAdvert,List.cons_append,List.nil_append]at hgx
    have hke:xs[i]?=some xs[i]:=List.getElem?_eq_getElem hi
    simp [t140k0,h0,h2,h4,h8,h9,h10,hi,hke,hg0,hgx,eAdvert,hlo,hitAt,resultsOf]
    rfl
   ·simp [t140k0,h0,h2,h4,h8,h9,h10,hi,hlo,hitAt,resultsOf]
theorem s140 (t:Bool) (xs:List Advert) (c s:Int) (g:Nat) (cap:List DV) (cm:Advert→Int) (hg:∀x∈xs,∀h,fc D g ([eAdvert x,.agg [.int .i64 c,.int .i64 s]]++cap) h=some (.int .i64 (cm x),h)) (hl:xs.length≤1000000)
  (hm:∀i j (hi:i<xs.length) (hj:j<xs.length),i≤j→cm xs[j]<0→cm xs[i]<0) :
  pcF D t140 [eL t 4 eAdvert xs,.agg [.int .i64 c,.int .i64 s],.func g cap]=some (.tup [.int .i64 (lowIdx cm xs),.bool (hitAt cm xs)]):=by
 unfold pcF
 rw [goRun_eq _ _ _ _ (by simp [t140])]
 simp [t140]
 refine l140 t xs c s g cap cm hg hl hm _ (some 1) (by simp) xs.length 0 xs.length _ (by omega) (by omega) (by omega) ?_ ?_ ?_ ?_ ?_ ?_ ?_ ?_<;>simp
 intro q hq hq'
 omega
end Go.Dm.Tc
/-
What functions of the library compute,part 4: an element put into a row of the call's own.
-/
namespace Go.Dm.Tc
end Go.Dm.Tc
/-
What functions of the statements' books compute: are two rows the same?
-/
namespace Go.Dm.Tc
theorem id_ne {x y:ID} (h:x≠y):(x.client == y.client && x.seq == y.seq)=false:=by
 obtain ⟨a,b⟩:=x
 obtain ⟨c,d⟩:=y
 simp only [ne_eq,ID.mk.injEq,not_and]at h
 by_cases h1:a=c
 ·simp [h1,h h1]
 ·simp [h1]
end Go.Dm.Tc
/-
What functions of the library compute,part 6: an element taken out of a row of the call's own;elements taken out by a function.
-/
namespace Go.Dm.Tc
def lenOf:DV→Option Nat
 | .nsl=>some 0
 | .sl _ _ _ len=>some len
 | .isl _ _ xs=>some xs.length
 | _=>none
end Go.Dm.Tc
/-
What functions of the library compute,part 7: elements taken out by a function.
-/
namespace Go.Dm.Tc
end Go.Dm.Tc
/-
What functions of the program compute,part 1: how advertisements are ordered and found.
-/
namespace Go.Dm.Tc
theorem s183 (a:Int):pcF D t183 [.int .i64 a]=some (.bool false):=by
 unfold pcF
 rw [goRun_eq _ _ _ _ (by simp [t183])]
 simp [t183]
def cmpI (a b:Int):Int:=if a<b then -1 else if b<a then 1 else 0
theorem s148 (a b:Int):pcF D t148 [.int .i64 a,.int .i64 b]=some (.int .i64 (cmpI a b)):=by
 unfold pcF
 rw [goRun_eq _ _ _ _ (by simp [t148])]
 by_cases h1:a<b
 ·simp [t148,e183,s183,h1,cmpI]
 ·by_cases h2:b<a
  ·simp [t148,e183,s183,h1,h2,cmpI]
  ·simp [t148,e183,s183,h1,h2,cmpI]
def orI (a b:Int):Int:=if a=0 then b else a
theorem s100 (t:Bool) (a b:Int):pcF D t100 [.isl t 1 [.int .i64 a,.int .i64 b]]=some (.int .i64 (orI a b)):=by
 unfold pcF
 rw [goRun_eq _ _ _ _ (by simp [t100])]
 simp [t100]
 rw [run_loop_of t100l0.eq_1]
 by_cases h1:a=0
 ·simp [h1,orI,indexAddrV,asI]
  rw [run_loop_of t100l0.eq_1]
  by_cases h2:b=0
  ·simp [h2,indexAddrV,asI]
   rw [run_loop_of t100l0.eq_1]
   simp [t100k0]
  ·simp [h2,indexAddrV,asI]
 ·simp [h1,orI,indexAddrV,asI]
def cmpID (a b:ID):Int:=orI (cmpI a.client b.client) (cmpI a.seq b.seq)
theorem s101 (a b c d:Int):pcF D t101 [.agg [.int .i64 a,.int .i64 b],.agg [.int .i64 c,.int .i64 d]]=some (.int .i64 (cmpID ⟨a,b⟩ ⟨c,d⟩)):=by
 unfold pcF
 rw [goRun_eq _ _ _ _ (by simp [t101])]
 simp [t101,e148,s148,e100,mkIsl,s100,cmpID]
def ltID (a b:ID):Bool:=decide (cmpID a b<0)
theorem s56 (a b c d:Int):pcF D t56 [.agg [.int .i64 a,.int .i64 b],.agg [.int .i64 c,.int .i64 d]]=some (.bool (ltID ⟨a,b⟩ ⟨c,d⟩)):=by
 unfold pcF
 rw [goRun_eq _ _ _ _ (by simp [t56])]
 simp [t56,e101,s101,ltID]
theorem s141 (a b:Int) (p:Pred) (q c d:Int):pcF D t141 [.agg [.int .i64 a,.int .i64 b,ePred p,.int .i64 q],.agg [.int .i64 c,.int .i64 d]]=some (.int .i64 (cmpID ⟨a,b⟩ ⟨c,d⟩)):=by
 unfold pcF
 rw [goRun_eq _ _ _ _ (by simp [t141])]
 simp [t141,e101,s101]
def Rising (l:List ID):Prop:=l.Pairwise fun a b=>cmpID a b<0
theorem cmpID_lt {a b:ID}:cmpID a b<0↔a.client<b.client∨a.client=b.client∧a.seq<b.seq:=by
 unfold cmpID orI cmpI
 split<;>split<;>(try split)<;>(try split)<;>omega
theorem cmpID_eq {a b:ID}:cmpID a b=0↔a=b:=by
 cases a;cases b
 simp only [ID.mk.injEq]
 unfold cmpID orI cmpI
 simp only
 split<;>split<;>(try split)<;>(try split)<;>omega
theorem cmpID_trans {a b c:ID} (h1:cmpID a b<0) (h2:cmpID b c<0):cmpID a c<0:=by
 rw [cmpID_lt]at *;omega
theorem cmpID_tri (a b:ID):cmpID a b<0∨a=b∨cmpID b a<0:=by
 rw [cmpID_lt,cmpID_lt]
 cases a;cases b
 simp only [ID.mk.injEq]
 omega
theorem mono_of_rising {α:Type} {key:α→ID} {xs:List α} (h:Rising (xs.map key)) (x:ID):∀i j (hi:i<xs.length) (hj:j<xs.length),i≤j→cmpID (key xs[j]) x<0→cmpID (key xs[i]) x<0:=by
 intro i j hi hj hij hlt
 rcases Nat.lt_or_eq_of_le hij with hl|rfl
 ·have:=List.pairwise_iff_getElem.1 h i j (by simpa using hi) (by simpa using hj) hl
  simp only [List.getElem_map]at this
  exact cmpID_trans this hlt
 ·exact hlt
theorem s71 (x0 x1 x2 x4 x5:DV) (t:Bool) (l:List ID) (c d:Int) (hr:Rising l) (hl:l.length≤1000000) :
  pcF D t71 [.agg [x0,x1,x2,eL t 2 eID l,x4,x5],.agg [.int .i64 c,.int .i64 d]]=some (.tup [.int .i64 (lowIdx (fun a=>cmpID a ⟨c,d⟩) l),.bool (hitAt (fun a=>cmpID a ⟨c,d⟩) l)]):=by
 have hb:=s139 t l c d 101 [] (fun a=>cmpID a ⟨c,d⟩) (fun x _ h=>by simp [eID,e101,s101]) hl (by
  have:=mono_of_rising (key:=fun a:ID=>a) (xs:=l) (by simpa using hr) ⟨c,d⟩
  exact this)
 unfold pcF
 rw [goRun_eq _ _ _ _ (by simp [t71])]
 simp [t71,e139,hb,resultsOf]
theorem s72 (x0 x1 x3 x4 x5:DV) (t:Bool) (l:List Advert) (c d:Int) (hr:Rising (l.map (·.id))) (hl:l.length≤1000000) :
  pcF D t72 [.agg [x0,x1,eL t 4 eAdvert l,x3,x4,x5],.agg [.int .i64 c,.int .i64 d]]=some (.tup [.int .i64 (lowIdx (fun a=>cmpID a.id ⟨c,d⟩) l),.bool (hitAt (fun a=>cmpID a.id ⟨c,d⟩) l)]):=by
 have hb:=s140 t l c d 141 [] (fun a=>cmpID a.id ⟨c,d⟩) (fun x _ h=>by simp [eAdvert,e141,s141]) hl (mono_of_rising hr ⟨c,d⟩)
 unfold pcF
 rw [goRun_eq _ _ _ _ (by simp [t72])]
 simp [t72,e140,hb,resultsOf]
end Go.Dm.Tc
/-
What functions of the program compute,part 2: a broker with rows of its own;an advertisement learned.
-/
namespace Go.Dm.Tc
end Go.Dm.Tc
/-
What functions of the program compute,part 3: an advertisement learned,found.
-/
namespace Go.Dm.Tc
section
variable {α:Type} (key:α→ID)
def insAt (a:α) (l:List α):List α:=l.take (lowIdx (fun b=>cmpID (key b) (key a)) l)++a::l.drop (lowIdx (fun b=>cmpID (key b) (key a)) l)
theorem rising_low {l:List α} (h:Rising (l.map key)) (x:ID):(∀i (hi:i<l.length),i<lowIdx (fun b=>cmpID (key b) x) l→cmpID (key l[i]) x<0)∧(∀i (hi:i<l.length),lowIdx (fun b=>cmpID (key b) x) l≤i→¬cmpID (key l[i]) x<0):=by
 constructor
 ·intro i hi hlt
  have:=List.not_of_lt_findIdx (p:=fun b=>!decide (cmpID (key b) x<0)) hlt
  simpa using this
 ·intro i hi hle hc
  have hk:lowIdx (fun b=>cmpID (key b) x) l<l.length:=Nat.lt_of_le_of_lt hle hi
  have h1:¬cmpID (key l[lowIdx (fun b=>cmpID (key b) x) l]) x<0:=by
   have:=List.findIdx_getElem (p:=fun b=>!decide (cmpID (key b) x<0)) (w:=hk)
   unfold lowIdx
   simpa using this
  exact h1 (mono_of_rising h x _ _ hk hi hle hc)
theorem hit_find {l:List α} (h:Rising (l.map key)) (x:ID):match l.find? (fun b=>key b=x) with
  | some a=>hitAt (fun b=>cmpID (key b) x) l=true∧l[lowIdx (fun b=>cmpID (key b) x) l]?=some a
  | none=>hitAt (fun b=>cmpID (key b) x) l=false:=by
 obtain ⟨r1,r2⟩:=rising_low key h x
 have hone:∀i j (hi:i<l.length) (hj:j<l.length),key l[i]=x→key l[j]=x→i=j:=by
  intro i j hi hj e1 e2
  rcases Nat.lt_trichotomy i j with hlt|he|hlt
  ·have:=List.pairwise_iff_getElem.1 h i j (by simpa using hi) (by simpa using hj) hlt
   simp only [List.getElem_map,e1,e2]at this
   rw [cmpID_lt]at this;omega
  ·exact he
  ·have:=List.pairwise_iff_getElem.1 h j i (by simpa using hj) (by simpa using hi) hlt
   simp only [List.getElem_map,e1,e2]at this
   rw [cmpID_lt]at this;omega
 cases hf:l.find? (fun b=>key b=x) with
 | some a =>
  have hax:key a=x:=by simpa using List.find?_some hf
  obtain ⟨i,hi,hia⟩:=List.mem_iff_getElem.1 (List.mem_of_find?_eq_some hf)
  have hk:lowIdx (fun b=>cmpID (key b) x) l=i:=by
   refine lowIdx_eq (Nat.le_of_lt hi) (fun q hq=>?_) (fun hq=>?_)
   ·have:=List.pairwise_iff_getElem.1 h q i (by simp;omega) (by simpa using hi) hq
    simp only [List.getElem_map,hia,hax]at this
    exact this
   ·rw [hia,hax,cmpID_lt];omega
  have hge:l[lowIdx (fun b=>cmpID (key b) x) l]?=some a:=by rw [hk,List.getElem?_eq_getElem hi,hia]
  refine ⟨?_,hge⟩
  unfold hitAt
  rw [hge]
  simp only [hax]
  simp [cmpID_eq]
 | none =>
  unfold hitAt
  cases hg:l[lowIdx (fun b=>cmpID (key b) x) l]? with
  | none=>rfl
  | some a =>
   have:key a≠x:=by
    have:=List.find?_eq_none.1 hf a (List.mem_of_getElem? hg)
    simpa using this
   simp only [decide_eq_false_iff_not]
   rw [cmpID_eq];exact this
end
theorem hit_mem {l:List ID} (hr:Rising l) (x:ID):hitAt (fun b=>cmpID b x) l=decide (x∈l):=by
 have hf:=hit_find (fun a:ID=>a) (by simpa using hr) x
 cases hq:l.find? (fun a=>a=x) with
 | none =>
  rw [hq]at hf
  simp only at hf
  rw [hf]
  have:=List.find?_eq_none.1 hq
  symm
  simp only [decide_eq_false_iff_not]
  intro hm
  exact this x hm (by simp)
 | some a =>
  rw [hq]at hf
  rw [hf.1]
  have h1:a=x:=by simpa using List.find?_some hq
  have h2:=List.mem_of_find?_eq_some hq
  rw [h1]at h2
  simp [h2]
def advOf (b:Broker) (x:ID):Option Advert:=b.adverts.find? fun a=>a.id=x
def advZero:Advert:=⟨⟨0,0⟩,[],0⟩
def hasO {α:Type}:Option α→Bool|some _=>true|none=>false
theorem s23 (x0 x1 x3 x4 x5:DV) (t:Bool) (l:List Advert) (c d:Int) (hr:Rising (l.map (·.id))) (hl:l.length≤1000000) (f0:Flat 20 x0) (f1:Flat 20 x1) (f3:Flat 20 x3) (f4:Flat 20 x4) (f5:Flat 20 x5) :
  pcF D t23 [.agg [x0,x1,eL t 4 eAdvert l,x3,x4,x5],.agg [.int .i64 c,.int .i64 d]]=some (.tup [eAdvert ((l.find? fun a=>a.id=⟨c,d⟩).getD advZero),.bool (hasO (l.find? fun a=>a.id=⟨c,d⟩))]):=by
 have hf:=hit_find (fun a:Advert=>a.id) hr ⟨c,d⟩
 unfold pcF
 rw [goRun_eq _ _ _ _ (by simp [t23])]
 have g0:∀h,resolve true h 199 x0=some x0:=fun h=>f0 _ _ _ (by decide)
 have g1:∀h,resolve true h 199 x1=some x1:=fun h=>f1 _ _ _ (by decide)
 have g3:∀h,resolve true h 199 x3=some x3:=fun h=>f3 _ _ _ (by decide)
 have g4:∀h,resolve true h 199 x4=some x4:=fun h=>f4 _ _ _ (by decide)
 have g5:∀h,resolve true h 199 x5=some x5:=fun h=>f5 _ _ _ (by decide)
 cases hq:l.find? (fun a=>a.id=⟨c,d⟩) with
 | none =>
  rw [hq]at hf
  simp at hf
  simp [t23,e72,s72,g0,g1,g3,g4,g5,hr,hl,hf,hq,eAdvert,advZero,hasO,resultsOf]
  rfl
 | some a =>
  rw [hq]at hf
  simp at hf
  simp [t23,e72,s72,g0,g1,g3,g4,g5,hr,hl,hf.1,hf.2,hq,eAdvert,hasO,resultsOf]
theorem s57 (x0 x1 x2 x4 x5:DV) (t:Bool) (l:List ID) (c d:Int) (hr:Rising l) (hl:l.length≤1000000) (f0:Flat 20 x0) (f1:Flat 20 x1) (f2:Flat 20 x2) (f4:Flat 20 x4) (f5:Flat 20 x5) :
  pcF D t57 [.agg [x0,x1,x2,eL t 2 eID l,x4,x5],.agg [.int .i64 c,.int .i64 d]]=some (.bool (decide (⟨c,d⟩∈l))):=by
 have hh:=hit_mem hr ⟨c,d⟩
 unfold pcF
 rw [goRun_eq _ _ _ _ (by simp [t57])]
 have g0:∀h,resolve true h 199 x0=some x0:=fun h=>f0 _ _ _ (by decide)
 have g1:∀h,resolve true h 199 x1=some x1:=fun h=>f1 _ _ _ (by decide)
 have g2:∀h,resolve true h 199 x2=some x2:=fun h=>f2 _ _ _ (by decide)
 have g4:∀h,resolve true h 199 x4=some x4:=fun h=>f4 _ _ _ (by decide)
 have g5:∀h,resolve true h 199 x5=some x5:=fun h=>f5 _ _ _ (by decide)
 simp [t57,e71,s71,g0,g1,g2,g4,g5,hr,hl,hh]
structure Sized (b:Broker):Prop where
 near:b.near.length≤100000
 adv:b.adverts.length≤100000
 seen:b.seen.length≤100000
 ent:b.entries.length≤100000
 own:b.owns.length≤100000
def learnB (b:Broker) (a:Advert):Broker×Bool :=
 if a.id∈b.seen then (b,false) else ({b with adverts:=insAt (fun a=>a.id) a b.adverts,seen:=insAt (fun x=>x) a.id b.seen},true)
end Go.Dm.Tc
/-
What functions of the program compute,part 4: are two brokers the same?
-/
namespace Go.Dm.Tc
theorem s86 (a b:Pred) (hl:a.length≤1000000):pcF D t86 [ePred a,ePred b]=some (.bool (decide (a=b))):=by
 unfold pcF
 rw [goRun_eq _ _ _ _ (by simp [t86])]
 have:=s147 false false a b hl
 simp only [←ePred.eq_1]at this
 simp [t86,e147,this]
theorem s85 (x y:Advert) (hl:x.pred.length≤1000000):pcF D t85 [eAdvert x,eAdvert y]=some (.bool (decide (x=y))):=by
 unfold pcF
 rw [goRun_eq _ _ _ _ (by simp [t85])]
 by_cases h1:x.id=y.id
 ·by_cases h2:x.parent=y.parent
  ·have:(x=y)=(x.pred=y.pred):=by cases x;cases y;simp_all
   simp [t85,eAdvert,h1,h2,e86,s86,hl,this]
  ·have:x≠y:=fun h=>h2 (by rw [h])
   simp [t85,eAdvert,h1,h2,this]
 ·have:x≠y:=fun h=>h1 (by rw [h])
  simp [t85,eAdvert,id_ne h1,this]
theorem s88 (x y:Entry) (hl:x.pred.length≤1000000):pcF D t88 [eEntry x,eEntry y]=some (.bool (decide (x=y))):=by
 unfold pcF
 rw [goRun_eq _ _ _ _ (by simp [t88])]
 by_cases h1:x.tree=y.tree
 ·by_cases h2:x.sub=y.sub
  ·by_cases h3:x.frm=y.frm
   ·by_cases h4:x.up=y.up
    ·have:(x=y)=(x.pred=y.pred):=by cases x;cases y;simp_all
     simp [t88,eEntry,h1,h2,h3,h4,e86,s86,hl,this]
    ·have:x≠y:=fun h=>h4 (by rw [h])
     simp [t88,eEntry,h1,h2,h3,beq_eq_false_iff_ne.2 h4,this]
   ·have:x≠y:=fun h=>h3 (by rw [h])
    simp [t88,eEntry,h1,h2,h3,this]
  ·have:x≠y:=fun h=>h2 (by rw [h])
   simp [t88,eEntry,h1,id_ne h2,this]
 ·have:x≠y:=fun h=>h1 (by rw [h])
  simp [t88,eEntry,id_ne h1,this]
theorem s90 (x y:OwnS) (hl:x.pred.length≤1000000):pcF D t90 [eOwn x,eOwn y]=some (.bool (decide (x=y))):=by
 unfold pcF
 rw [goRun_eq _ _ _ _ (by simp [t90])]
 by_cases h1:x.id=y.id
 ·have:(x=y)=(x.pred=y.pred):=by cases x;cases y;simp_all
  simp [t90,eOwn,h1,e86,s86,hl,this]
 ·have:x≠y:=fun h=>h1 (by rw [h])
  simp [t90,eOwn,id_ne h1,this]
theorem allB_eq {α:Type} [DecidableEq α]:∀(xs ys:List α),allB (fun x y=>decide (x=y)) xs ys=decide (xs=ys):=by
 intro xs
 induction xs with
 | nil=>intro ys;cases ys<;>simp [allB]
 | cons x xs ih=>intro ys;cases ys<;>simp [allB,ih]
structure SizedP (b:Broker):Prop where
 adv:∀x∈b.adverts,x.pred.length≤1000000
 ent:∀x∈b.entries,x.pred.length≤1000000
 own:∀x∈b.owns,x.pred.length≤1000000
theorem s26 (t u:Tags) (a b:Broker) (hs:Sized a) (hp:SizedP a):pcF D t26 [eBroker t a,eBroker u b]=some (.bool (decide (a=b))):=by
 obtain ⟨z1,z2,z3,z4,z5⟩:=hs
 have q1:=s82 t.near u.near a.near b.near (by omega)
 have q2:=s83 t.seen u.seen a.seen b.seen (by omega)
 have q3:=s84 t.adverts u.adverts a.adverts b.adverts 85 (fun x y=>decide (x=y)) (fun x hx y _ h=>by
  have:=s85 x y (hp.adv x hx)
  simp only [eAdvert]at this
  simp [eAdvert,e85,this]) (by omega)
 have q4:=s87 t.entries u.entries a.entries b.entries 88 (fun x y=>decide (x=y)) (fun x hx y _ h=>by
  have:=s88 x y (hp.ent x hx)
  simp only [eEntry]at this
  simp [eEntry,e88,this]) (by omega)
 have q5:=s89 t.owns u.owns a.owns b.owns 90 (fun x y=>decide (x=y)) (fun x hx y _ h=>by
  have:=s90 x y (hp.own x hx)
  simp only [eOwn]at this
  simp [eOwn,e90,this]) (by omega)
 rw [allB_eq]at q3 q4 q5
 unfold pcF
 rw [goRun_eq _ _ _ _ (by simp [t26])]
 by_cases h1:a.me=b.me
 ·by_cases h2:a.near=b.near
  ·by_cases h3:a.seen=b.seen
   ·by_cases h4:a.adverts=b.adverts
    ·by_cases h5:a.entries=b.entries
     ·have:(a=b)=(a.owns=b.owns):=by cases a;cases b;simp_all
      simp [t26,eBroker,h1,q1,q2,q3,q4,q5,eq_true h2,eq_true h3,eq_true h4,eq_true h5,this,e82,e83,e84,e87,e89]
     ·have:a≠b:=fun h=>h5 (by rw [h])
      simp [t26,eBroker,h1,q1,q2,q3,q4,eq_true h2,eq_true h3,eq_true h4,h5,this,e82,e83,e84,e87]
    ·have:a≠b:=fun h=>h4 (by rw [h])
     simp [t26,eBroker,h1,q1,q2,q3,eq_true h2,eq_true h3,h4,this,e82,e83,e84]
   ·have:a≠b:=fun h=>h3 (by rw [h])
    simp [t26,eBroker,h1,q1,q2,eq_true h2,h3,this,e82,e83]
  ·have:a≠b:=fun h=>h2 (by rw [h])
   simp [t26,eBroker,h1,q1,h2,this,e82]
 ·have:a≠b:=fun h=>h1 (by rw [h])
  simp [t26,eBroker,h1,this]
end Go.Dm.Tc
/-
What functions of the program compute,part 5: the statements' own comparisons of brokers.
-/
namespace Go.Dm.Tc
end Go.Dm.Tc
/-
What functions of the statements' own packages compute: numbers brought into bounds;predicates made of numbers;a broker copied.
-/
namespace Go.Dm.Tc
def within (n lo hi:Int):Int:=if n.tmod (hi-lo+1)<0 then lo+(n.tmod (hi-lo+1)+hi-lo+1) else lo+n.tmod (hi-lo+1)
theorem within_bounds (n:Int) {lo hi:Int} (h:lo≤hi):lo≤within n lo hi∧within n lo hi≤hi:=by
 have h1:0<hi-lo+1:=by omega
 have h2:=Int.tmod_lt_of_pos n h1
 have h3:-(hi-lo+1)<n.tmod (hi-lo+1):=by
  have:=Int.lt_tmod_of_pos n h1
  omega
 unfold within
 split<;>omega
theorem s16 (n lo hi:Int) (h:lo≤hi) (hlo:-1000000000≤lo) (hhi:hi≤1000000000):pcF D t16 [.int .i64 n,.int .i64 lo,.int .i64 hi]=some (.int .i64 (within n lo hi)):=by
 unfold pcF
 rw [goRun_eq _ _ _ _ (by simp [t16])]
 have h1:0<hi-lo+1:=by omega
 have h2:=Int.tmod_lt_of_pos n h1
 have h3:-(hi-lo+1)<n.tmod (hi-lo+1):=by
  have:=Int.lt_tmod_of_pos n h1
  omega
 have w1:IntKind.i64.wrap (hi-lo)=hi-lo:=wrap64 (by omega) (by omega)
 have w2:IntKind.i64.wrap (hi-lo+1)=hi-lo+1:=wrap64 (by omega) (by omega)
 have hne:hi-lo+1≠0:=by omega
 have hr:arithD .rem (.int .i64 n) (.int .i64 (hi-lo+1))=some (.int .i64 (n.tmod (hi-lo+1))):=by simp [arithD,hne]
 by_cases hneg:n.tmod (hi-lo+1)<0
 ·have w3:IntKind.i64.wrap (n.tmod (hi-lo+1)+hi)=n.tmod (hi-lo+1)+hi:=wrap64 (by omega) (by omega)
  have w4:IntKind.i64.wrap (n.tmod (hi-lo+1)+hi-lo)=n.tmod (hi-lo+1)+hi-lo:=wrap64 (by omega) (by omega)
  have w5:IntKind.i64.wrap (n.tmod (hi-lo+1)+hi-lo+1)=n.tmod (hi-lo+1)+hi-lo+1:=wrap64 (by omega) (by omega)
  have w6:IntKind.i64.wrap (lo+(n.tmod (hi-lo+1)+hi-lo+1))=lo+(n.tmod (hi-lo+1)+hi-lo+1):=wrap64 (by omega) (by omega)
  simp [t16,w1,w2,hr,hneg,w3,w4,w5,w6,within]
 ·have w6:IntKind.i64.wrap (lo+n.tmod (hi-lo+1))=lo+n.tmod (hi-lo+1):=wrap64 (by omega) (by omega)
  simp [t16,w1,w2,hr,hneg,w6,within]
def namesL:List (List UInt8):=[[97],[98],[99],[100],[101],[102],[103]]
def textsL:List (List UInt8):=[[],[120],[120,121],[120,121,122],[120,122],[121],[121,121]]
theorem s67:pcF D t67 []=some (eL false 1 eStr namesL):=by
 unfold pcF
 rw [goRun_eq _ _ _ _ (by simp [t67])]
 simp [t67,List.replicate]
 exact ⟨rfl,rfl⟩
theorem s136:pcF D t136 []=some (eL false 1 eStr textsL):=by
 unfold pcF
 rw [goRun_eq _ _ _ _ (by simp [t136])]
 simp [t136,List.replicate]
 exact ⟨rfl,rfl⟩
def pickI (l:List Int) (i:Nat):Int:=if l.length=0 then 0 else l.getD (i % l.length) 0
theorem s69 (t:Bool) (l:List Int) (i:Nat):pcF D t69 [eL t 1 cInt l,.int .i64 i]=some (.int .i64 (pickI l i)):=by
 unfold pcF
 rw [goRun_eq _ _ _ _ (by simp [t69])]
 cases l with
 | nil=>simp [t69,pickI]
 | cons x l =>
  have hne:((l.length:Int)+1)≠0:=by omega
  have hr:arithD .rem (.int .i64 (i:Int)) (.int .i64 ((l.length:Int)+1))=some (.int .i64 ((i % (l.length+1):Nat):Int)):=by
   simp only [arithD,if_true,if_neg hne]
   congr 2
  have hlt:i % (l.length+1)<(x::l).length:=by simp;exact Nat.mod_lt _ (by omega)
  simp [t69,hr,-Int.natCast_emod,List.getElem?_eq_getElem hlt,cInt,pickI,hne]
def mkCons (name:List UInt8) (n:Int):Cons :=
 if within n 0 3=0∨within n 0 3=1 then ⟨name,1,within (IntKind.i64.wrap (n.tdiv 4)) 0 9,within (IntKind.i64.wrap (n.tdiv 4)) 0 9+within (IntKind.i64.wrap (n.tdiv 40)) 0 9,[]⟩
 else ⟨name,if within n 0 3=2 then 2 else 3,0,0,textsL.getD (within (IntKind.i64.wrap (n.tdiv 4)) 0 6).toNat []⟩
set_option maxRecDepth 8000 in
theorem s68 (name:List UInt8) (n:Int):pcF D t68 [.str name,.int .i64 n]=some (eCons (mkCons name n)):=by
 unfold pcF
 rw [goRun_eq _ _ _ _ (by simp [t68])]
 have w0:=s16 n 0 3 (by decide) (by decide) (by decide)
 have w1:=fun m=>s16 m 0 9 (by decide) (by decide) (by decide)
 have w2:=fun m=>s16 m 0 6 (by decide) (by decide) (by decide)
 have hq4:arithD .quo (.int .i64 n) (.int .i64 4)=some (.int .i64 (IntKind.i64.wrap (n.tdiv 4))):=rfl
 have hq40:arithD .quo (.int .i64 n) (.int .i64 40)=some (.int .i64 (IntKind.i64.wrap (n.tdiv 40))):=rfl
 by_cases h01:within n 0 3=0∨within n 0 3=1
 ·have b1:=within_bounds (IntKind.i64.wrap (n.tdiv 4)) (show (0:Int)≤9 by decide)
  have b2:=within_bounds (IntKind.i64.wrap (n.tdiv 40)) (show (0:Int)≤9 by decide)
  have w3:IntKind.i64.wrap (within (IntKind.i64.wrap (n.tdiv 4)) 0 9+within (IntKind.i64.wrap (n.tdiv 40)) 0 9)=within (IntKind.i64.wrap (n.tdiv 4)) 0 9+within (IntKind.i64.wrap (n.tdiv 40)) 0 9:=wrap64 (by omega) (by omega)
  rcases h01 with h0|h1
  ·simp [t68,e16,w0,w1,hq4,hq40,h0,turn]
   rw [w3]
   simp [mkCons,eCons,h0]
  ·simp [t68,e16,w0,w1,hq4,hq40,h1,turn]
   rw [w3]
   simp [mkCons,eCons,h1]
 ·have b1:=within_bounds (IntKind.i64.wrap (n.tdiv 4)) (show (0:Int)≤6 by decide)
  have hlt:(within (IntKind.i64.wrap (n.tdiv 4)) 0 6).toNat<textsL.length:=by simp [textsL];omega
  obtain ⟨tx,hx⟩:∃ tx,textsL[(within (IntKind.i64.wrap (n.tdiv 4)) 0 6).toNat]?=some tx:=⟨_,List.getElem?_eq_getElem hlt⟩
  have h0:¬within n 0 3=0:=fun h=>h01 (.inl h)
  have h1:¬within n 0 3=1:=fun h=>h01 (.inr h)
  by_cases h2:within n 0 3=2
  ·simp [t68,e16,w0,w2,hq4,h0,h1,h2,turn,e136,s136,b1.1,hx,eStr]
   simp [mkCons,eCons,h0,h1,h2,hx]
  ·simp [t68,e16,w0,w2,hq4,h0,h1,h2,turn,e136,s136,b1.1,hx,eStr]
   simp [mkCons,eCons,h0,h1,h2,hx]
end Go.Dm.Tc
/-
What functions of the statements' own packages compute: predicates made of numbers.
-/
namespace Go.Dm.Tc
def and1 (n:Int):Int:=IntKind.i64.wrap ((BitVec.ofInt 64 n &&& BitVec.ofInt 64 1).toNat:Int)
def odd1 (n:Int):Bool:=decide (and1 n=1)
def mkPredA (has vals:List Int):List (List UInt8)→Nat→Pred→Pred
 | [],_,acc=>acc
 | nm::r,i,acc=>if i<has.length∧odd1 (has.getD i 0)=true∧acc.length<5 then mkPredA has vals r (i+1) (acc++[mkCons nm (pickI vals i)]) else mkPredA has vals r (i+1) acc
def mkPred (has vals:List Int):Pred:=mkPredA has vals namesL 0 []
theorem and_one (n:Int):arithD .and (.int .i64 n) (.int .i64 1)=some (.int .i64 (and1 n)):=rfl
theorem own_cons {lo:Nat} {h:Heap} {v:DV} {ety:Nat} {ys:List Cons} (w:Own lo h v ety 5 (ys.map eCons)):pcOut (some (v,h))=some (ePred ys):=w.out (fun y _=>(plain_con y).1.mono (by decide)) (fun y _=>(plain_con y).2.mono (by decide)) (k:=22) (by decide)
set_option maxRecDepth 8000 in
theorem l18 (th tv:Bool) (has vals:List Int) (tp:Nat) (h0:Heap) (g0:h0.get 0=some (.arr tp 2 [.agg [eL th 1 cInt has,eL tv 1 cInt vals]] (some 1))) (hlim:h0.lim=0) (hl:has.length≤9223372036854775807) :
  ∀(rest:List (List UInt8)) (acc:Pred) (i:Nat) (f:FEnv) (h:Heap),namesL.drop i=rest→acc.length≤i→f 1=.ptr 0 2 0 0→f 6=eL false 1 eStr namesL→f 7=.int .i64 7→f 8=.int .i64 i→Own 1 h (f 3) 62 5 (acc.map eCons)→Ext 1 h0 h →
  pcOut (fin [.t 2] (run D 43 [.block 0,.seq t18k0] (.loop t18l0) f h))=some (ePred (mkPredA has vals rest i acc)):=by
 intro rest
 induction rest with
 | nil =>
  intro acc i f h hd ha h1 h6 h7 h8 ho hx
  have hi:=drop_nil hd
  have:¬((i:Int)<7):=by simp [namesL]at hi;omega
  rw [run_loop_of t18l0.eq_1]
  simp [t18k0,h7,h8,this,mkPredA]
  exact own_cons ho
 | cons nm rest ih =>
  intro acc i f h hd ha h1 h6 h7 h8 ho hx
  obtain ⟨hi,he,hd'⟩:=drop_at hd
  have hi7:i<7:=by simpa [namesL] using hi
  have hlt:(i:Int)<7:=by omega
  have hg0:=(hx.get 0 (by decide)).trans g0
  have w1:IntKind.i64.wrap ((i:Int)+1)=(i:Int)+1:=wrap64 (by omega) (by omega)
  have hpk:=s69 tv vals i
  have hlen:lenV h 1 (f 3)=some (.int .i64 (acc.length:Int)):=by simpa using ho.lenV
  rw [run_loop_of t18l0.eq_1]
  by_cases c1:i<has.length
  ·obtain ⟨b,hb⟩:∃ b,has[i]=b:=⟨_,rfl⟩
   have hb':has.getD i 0=b:=by rw [List.getD_eq_getElem?_getD,List.getElem?_eq_getElem c1,hb];rfl
   by_cases c2:and1 b=1
   ·by_cases c3:acc.length<5
    ·have c3':(acc.length:Int)<5:=by omega
     have hm:mkPredA has vals (nm::rest) i acc=mkPredA has vals rest (i+1) (acc++[mkCons nm (pickI vals i)]):=by simp only [mkPredA];rw [if_pos ⟨c1,by rw [hb'];simp [odd1,c2],c3⟩]
     rw [hm]
     simp [h1,h6,h7,h8,hlt,hg0,hi,he,eStr,cInt,c1,hb,and_one,c2,hlen,c3',e69,hpk,e68,s68,eCons]
     generalize hA:appendD _ _ _ _ _ _=A
     obtain ⟨v',h',rfl,ho',hx'⟩:=ho.push.append hx.push.wf hx.push.le (by rw [hx.push.lim,hlim];omega) hA (by simp;omega) (by decide)
     simp [w1,h8]
     refine ih (acc++[mkCons nm (pickI vals i)]) (i+1) _ h' hd' (by simp;omega) ?_ ?_ ?_ ?_ ?_ (hx.push.trans hx')<;>simp [h1,h6,h7]
     simpa [eCons] using ho'
    ·have c3':¬(acc.length:Int)<5:=by omega
     have hm:mkPredA has vals (nm::rest) i acc=mkPredA has vals rest (i+1) acc:=by simp only [mkPredA];rw [if_neg (fun q=>c3 q.2.2)]
     rw [hm]
     simp [h1,h6,h7,h8,hlt,hg0,hi,he,eStr,cInt,c1,hb,and_one,c2,hlen,c3',w1]
     refine ih acc (i+1) _ h hd' (by omega) ?_ ?_ ?_ ?_ ?_ hx<;>simp [h1,h6,h7,ho]
   ·have hm:mkPredA has vals (nm::rest) i acc=mkPredA has vals rest (i+1) acc:=by simp only [mkPredA];rw [if_neg (fun q=>c2 (by rw [hb']at q;simpa [odd1] using q.2.1))]
    rw [hm]
    simp [h1,h6,h7,h8,hlt,hg0,hi,he,eStr,cInt,c1,hb,and_one,c2,w1]
    refine ih acc (i+1) _ h hd' (by omega) ?_ ?_ ?_ ?_ ?_ hx<;>simp [h1,h6,h7,ho]
  ·have c1':¬((i:Int)<has.length):=by omega
   have hm:mkPredA has vals (nm::rest) i acc=mkPredA has vals rest (i+1) acc:=by simp only [mkPredA];rw [if_neg (fun q=>c1 q.1)]
   rw [hm]
   simp [h1,h6,h7,h8,hlt,hg0,hi,he,eStr,c1,w1]
   refine ih acc (i+1) _ h hd' (by omega) ?_ ?_ ?_ ?_ ?_ hx<;>simp [h1,h6,h7,ho]
theorem s18 (th tv:Bool) (has vals:List Int) (hl:has.length≤9223372036854775807) :
  pcF D t18 [.agg [eL th 1 cInt has,eL tv 1 cInt vals]]=some (ePred (mkPred has vals)):=by
 unfold pcF
 rw [goRun_eq _ _ _ _ (by simp [t18])]
 simp [t18,e67,s67]
 refine l18 th tv has vals 32 _ ?_ ?_ hl namesL [] 0 _ _ rfl (by simp) ?_ ?_ ?_ ?_ ?_ (Ext.refl ?_ ?_)<;>simp [namesL]
 exact .start _ _ _ _
end Go.Dm.Tc
/-
What functions of the statements' own packages compute: a broker copied;the reference's orders and searches.
-/
namespace Go.Dm.Tc
end Go.Dm.Tc
/-
What the reference's functions compute,part 1: orders,searches,an advertisement learned.
-/
namespace Go.Dm.Tc
theorem ltID_eq (a b c d:Int):ltID ⟨a,b⟩ ⟨c,d⟩=(decide (a<c) || (decide (a=c) && decide (b<d))):=by
 unfold ltID
 rw [Bool.eq_iff_iff]
 simp [cmpID_lt]
theorem s76 (a b c d:Int):pcF D t76 [.agg [.int .i64 a,.int .i64 b],.agg [.int .i64 c,.int .i64 d]]=some (.bool (ltID ⟨a,b⟩ ⟨c,d⟩)):=by
 unfold pcF
 rw [goRun_eq _ _ _ _ (by simp [t76])]
 rw [ltID_eq]
 by_cases h1:a<c
 ·simp [t76,h1]
 ·by_cases h2:a=c
  ·subst h2
   simp [t76]
  ·simp [t76,h1,h2]
theorem l24 (h0:Heap) (c s:Int) (t:Bool) (l:List Advert) (hl:l.length≤1000000) (g1:h0.get 1=some (.arr 37 2 [.agg [.int .i64 c,.int .i64 s]] (some 1))) (hlim:h0.lim=0) :
  ∀(rest:List Advert) (i:Nat) (f:FEnv) (h:Heap),l.drop i=rest→f 3=.ptr 1 2 0 0→f 8=eL t 4 eAdvert l→f 9=.int .i64 l.length→f 10=.int .i64 i→Ext 2 h0 h →
  pcOut (fin [.t 4] (run D 21 [.block 0,.seq t24k0] (.loop t24l0) f h))=some (.int .i64 (idxOf ((rest.findIdx? fun a=>a.id=⟨c,s⟩).map (·+i)))):=by
 intro rest
 induction rest with
 | nil =>
  intro i f h hd h3 h8 h9 h10 hx
  have hi:=drop_nil hd
  have:¬(i<l.length):=by omega
  rw [run_loop_of t24l0.eq_1]
  simp [t24k0,h9,h10,this,idxOf]
 | cons e rest ih =>
  intro i f h hd h3 h8 h9 h10 hx
  obtain ⟨hi,he,hd'⟩:=drop_at hd
  have hg1:=(hx.get 1 (by decide)).trans g1
  have hn:1≠h.n:=by have:=hx.le;omega
  have hl0:h.lim=0:=hx.lim.trans hlim
  rw [run_loop_of t24l0.eq_1]
  by_cases ht:e.id=⟨c,s⟩
  ·simp [h3,h8,h9,h10,hi,he,hn,hg1,eAdvert,hl0,ht,List.findIdx?_cons,idxOf]
  ·have ht':=id_ne ht
   simp only at ht'
   simp [h3,h8,h9,h10,hi,he,hn,hg1,eAdvert,hl0,ht']
   rw [wrap64 (by omega) (by omega)]
   refine (ih (i+1) _ _ hd' ?_ ?_ ?_ ?_ hx.push).trans ?_<;>simp [h3,h8,h9,List.findIdx?_cons,ht,eAdvert]
   congr 2
   funext q
   simp
   omega
theorem s24 (x0 x1 x3 x4 x5:DV) (t:Bool) (l:List Advert) (c s:Int) (hl:l.length≤1000000) :
  pcF D t24 [.agg [x0,x1,eL t 4 eAdvert l,x3,x4,x5],.agg [.int .i64 c,.int .i64 s]]=some (.int .i64 (idxOf (l.findIdx? fun a=>a.id=⟨c,s⟩))):=by
 unfold pcF
 rw [goRun_eq _ _ _ _ (by simp [t24])]
 simp [t24]
 refine (l24 _ c s t l hl ?_ ?_ l 0 _ _ rfl ?_ ?_ ?_ ?_ (Ext.refl ?_ ?_)).trans ?_<;>simp
theorem l75 (h0:Heap) (c s:Int) (t:Bool) (l:List ID) (hl:l.length≤1000000) (g1:h0.get 1=some (.arr 37 2 [.agg [.int .i64 c,.int .i64 s]] (some 1))) (hlim:h0.lim=0) :
  ∀(rest:List ID) (i:Nat) (f:FEnv) (h:Heap),l.drop i=rest→f 3=.ptr 1 2 0 0→f 8=eL t 2 eID l→f 9=.int .i64 l.length→f 10=.int .i64 i→Ext 2 h0 h →
  pcOut (fin [.t 4] (run D 18 [.block 0,.seq t75k0] (.loop t75l0) f h))=some (.bool (decide (⟨c,s⟩∈rest))):=by
 intro rest
 induction rest with
 | nil =>
  intro i f h hd h3 h8 h9 h10 hx
  have hi:=drop_nil hd
  have:¬(i<l.length):=by omega
  rw [run_loop_of t75l0.eq_1]
  simp [t75k0,h9,h10,this]
 | cons e rest ih =>
  intro i f h hd h3 h8 h9 h10 hx
  obtain ⟨hi,he,hd'⟩:=drop_at hd
  have hg1:=(hx.get 1 (by decide)).trans g1
  have hn:1≠h.n:=by have:=hx.le;omega
  have hl0:h.lim=0:=hx.lim.trans hlim
  rw [run_loop_of t75l0.eq_1]
  by_cases ht:e=⟨c,s⟩
  ·simp [h3,h8,h9,h10,hi,he,hn,hg1,eID,hl0,ht]
  ·have ht':=id_ne ht
   have ht2:¬(⟨c,s⟩:ID)=e:=fun q=>ht q.symm
   simp only at ht'
   simp [h3,h8,h9,h10,hi,he,hn,hg1,eID,hl0,ht']
   rw [wrap64 (by omega) (by omega)]
   refine (ih (i+1) _ _ hd' ?_ ?_ ?_ ?_ hx.push).trans ?_<;>simp [h3,h8,h9,ht2,eID]
theorem s75 (x0 x1 x2 x4 x5:DV) (t:Bool) (l:List ID) (c s:Int) (hl:l.length≤1000000) :
  pcF D t75 [.agg [x0,x1,x2,eL t 2 eID l,x4,x5],.agg [.int .i64 c,.int .i64 s]]=some (.bool (decide (⟨c,s⟩∈l))):=by
 unfold pcF
 rw [goRun_eq _ _ _ _ (by simp [t75])]
 simp [t75]
 refine (l75 _ c s t l hl ?_ ?_ l 0 _ _ rfl ?_ ?_ ?_ ?_ (Ext.refl ?_ ?_)).trans ?_<;>simp
theorem low_step {α:Type} (cm:α→Int) {l:List α} {i:Nat} {a:α} (hlow:i≤lowIdx cm l) (ha:l[i]?=some a):(cm a<0→i+1≤lowIdx cm l)∧(¬cm a<0→lowIdx cm l=i):=by
 have hi:i<l.length:=by
  by_cases h:i<l.length
  ·exact h
  ·rw [List.getElem?_eq_none (by omega)]at ha;cases ha
 have hb:∀q (hq:q<i),cm (l[q]'(by omega))<0:=fun q hq=>by
  have:=List.not_of_lt_findIdx (p:=fun x=>!decide (cm x<0)) (Nat.lt_of_lt_of_le hq hlow)
  simpa using this
 have hai:l[i]=a:=by rw [List.getElem?_eq_getElem hi]at ha;injection ha
 constructor
 ·intro hc
  rcases Nat.lt_or_eq_of_le hlow with h|h
  ·exact h
  ·exfalso
   have hk:lowIdx cm l<l.length:=by omega
   have:=List.findIdx_getElem (p:=fun x=>!decide (cm x<0)) (w:=hk)
   have h2:¬cm l[lowIdx cm l]<0:=by
    unfold lowIdx
    simpa using this
   simp only [←h]at h2
   exact h2 (by rw [hai];exact hc)
 ·intro hc
  exact lowIdx_eq (Nat.le_of_lt hi) hb (fun _=>by rw [hai];exact hc)
end Go.Dm.Tc
/-
What the reference's functions compute,part 2: an advertisement learned.
-/
namespace Go.Dm.Tc
theorem low_lt {α:Type} (cm:α→Int) {l:List α} {i:Nat} {a:α} (hlt:i<lowIdx cm l) (ha:l[i]?=some a):decide (cm a<0)=true:=by
 have hi:i<l.length:=by have:=lowIdx_le cm l;omega
 have:=List.not_of_lt_findIdx (p:=fun b=>!decide (cm b<0)) (xs:=l) (i:=i) hlt
 rw [List.getElem?_eq_getElem hi]at ha
 injection ha with ha
 rw [ha]at this
 simpa using this
theorem l20 (S:List Fr) (h:Heap) (x0 x1 x2 x4 x5:DV) (t:Bool) (l:List ID) (c d:Int) (p q:DV) (ta tb:Nat) (hl:l.length≤1000000)
  (g0:h.get 0=some (.arr tb 6 [.agg [x0,x1,x2,eL t 2 eID l,x4,x5]] (some 1))) (g1:h.get 1=some (.arr ta 4 [.agg [.int .i64 c,.int .i64 d,p,q]] (some 1))) :
  ∀(n i:Nat) (f:FEnv),lowIdx (fun b=>cmpID b ⟨c,d⟩) l-i=n→i≤lowIdx (fun b=>cmpID b ⟨c,d⟩) l→f 2=.ptr 0 6 0 0→f 3=.ptr 1 4 0 0→f 6=.int .i64 i →
  ∃ f',run D 79 (.block 0::.seq t20k1::S) (.loop t20l0) f h=run D 79 S t20k1 f' h∧f' 2=.ptr 0 6 0 0∧f' 3=.ptr 1 4 0 0∧f' 4=f 4∧f' 5=f 5∧f' 6=.int .i64 (lowIdx (fun b=>cmpID b ⟨c,d⟩) l):=by
 intro n
 induction n with
 | zero =>
  intro i f hn hi h2 h3 h6
  have hlo:lowIdx (fun b=>cmpID b ⟨c,d⟩) l=i:=by omega
  rw [run_loop_of t20l0.eq_1]
  by_cases hlt:i<l.length
  ·have hsx:=low_step (fun b:ID=>cmpID b ⟨c,d⟩) hi (List.getElem?_eq_getElem hlt)
   have hge:ltID ⟨l[i].client,l[i].seq⟩ ⟨c,d⟩=false:=by
    unfold ltID
    simp only [decide_eq_false_iff_not]
    intro hc
    have:=hsx.1 hc
    omega
   have hlt':(i:Int)<l.length:=by omega
   simp [h2,h3,h6,g0,g1,hlt,eID,e76,s76,hge]
   exact ⟨_,rfl,by simp [h2],by simp [h3],by simp,by simp,by simp [h6,hlo]⟩
  ·simp [h2,h3,h6,g0,g1,hlt]
   exact ⟨_,rfl,by simp [h2],by simp [h3],by simp,by simp,by simp [h6,hlo]⟩
 | succ n ih =>
  intro i f hn hi h2 h3 h6
  have hlt:i<l.length:=by have:=lowIdx_le (fun b=>cmpID b ⟨c,d⟩) l;omega
  have hge:ltID ⟨l[i].client,l[i].seq⟩ ⟨c,d⟩=true:=low_lt (fun b:ID=>cmpID b ⟨c,d⟩) (by omega) (List.getElem?_eq_getElem hlt)
  rw [run_loop_of t20l0.eq_1]
  simp [h2,h3,h6,g0,g1,hlt,eID,e76,s76,hge]
  rw [wrap64 (by omega) (by omega)]
  generalize hF:upd _ 6 _=F
  obtain ⟨f',k1,k2,k3,k4,k5,k6⟩:=ih (i+1) F (by omega) (by omega) (by rw [←hF];simp [h2]) (by rw [←hF];simp [h3]) (by rw [←hF];simp)
  exact ⟨f',k1,k2,k3,by rw [k4,←hF];simp,by rw [k5,←hF];simp,k6⟩
theorem m20 (S:List Fr) (h:Heap) (x0 x1 x3 x4 x5:DV) (t:Bool) (l:List Advert) (c d:Int) (p q:DV) (ta tb:Nat) (hl:l.length≤1000000)
  (g0:h.get 0=some (.arr tb 6 [.agg [x0,x1,eL t 4 eAdvert l,x3,x4,x5]] (some 1))) (g1:h.get 1=some (.arr ta 4 [.agg [.int .i64 c,.int .i64 d,p,q]] (some 1))) :
  ∀(n i:Nat) (f:FEnv),lowIdx (fun b=>cmpID b.id ⟨c,d⟩) l-i=n→i≤lowIdx (fun b=>cmpID b.id ⟨c,d⟩) l→f 2=.ptr 0 6 0 0→f 3=.ptr 1 4 0 0→f 6=.int .i64 i →
  ∃ f',run D 79 (.block 2::.seq t20k0::S) (.loop t20l1) f h=run D 79 S t20k0 f' h∧f' 2=.ptr 0 6 0 0∧f' 3=.ptr 1 4 0 0∧f' 4=f 4∧f' 5=f 5∧f' 6=.int .i64 (lowIdx (fun b=>cmpID b.id ⟨c,d⟩) l):=by
 intro n
 induction n with
 | zero =>
  intro i f hn hi h2 h3 h6
  have hlo:lowIdx (fun b=>cmpID b.id ⟨c,d⟩) l=i:=by omega
  rw [run_loop_of t20l1.eq_1]
  by_cases hlt:i<l.length
  ·have hsx:=low_step (fun b:Advert=>cmpID b.id ⟨c,d⟩) hi (List.getElem?_eq_getElem hlt)
   have hge:ltID ⟨l[i].id.client,l[i].id.seq⟩ ⟨c,d⟩=false:=by
    unfold ltID
    simp only [decide_eq_false_iff_not]
    intro hc
    have:=hsx.1 hc
    omega
   simp [h2,h3,h6,g0,g1,hlt,eAdvert,e76,s76,hge]
   exact ⟨_,rfl,by simp [h2],by simp [h3],by simp,by simp,by simp [h6,hlo]⟩
  ·simp [h2,h3,h6,g0,g1,hlt]
   exact ⟨_,rfl,by simp [h2],by simp [h3],by simp,by simp,by simp [h6,hlo]⟩
 | succ n ih =>
  intro i f hn hi h2 h3 h6
  have hlt:i<l.length:=by have:=lowIdx_le (fun b:Advert=>cmpID b.id ⟨c,d⟩) l;omega
  have hge:ltID ⟨l[i].id.client,l[i].id.seq⟩ ⟨c,d⟩=true:=low_lt (fun b:Advert=>cmpID b.id ⟨c,d⟩) (by omega) (List.getElem?_eq_getElem hlt)
  rw [run_loop_of t20l1.eq_1]
  simp [h2,h3,h6,g0,g1,hlt,eAdvert,e76,s76,hge]
  rw [wrap64 (by omega) (by omega)]
  generalize hF:upd _ 6 _=F
  obtain ⟨f',k1,k2,k3,k4,k5,k6⟩:=ih (i+1) F (by omega) (by omega) (by rw [←hF];simp [h2]) (by rw [←hF];simp [h3]) (by rw [←hF];simp)
  exact ⟨f',k1,k2,k3,by rw [k4,←hF];simp,by rw [k5,←hF];simp,k6⟩
set_option maxRecDepth 8000 in
theorem s20 (b:Broker) (c d:Int) (p:Pred) (q:Int) (hs:Sized b) (ra:Rising (b.adverts.map (·.id))) (rs:Rising b.seen) :
  pcF D t20 [eBroker .none b,.agg [.int .i64 c,.int .i64 d,ePred p,.int .i64 q]]=some (.tup [eBroker .none (learnB b ⟨⟨c,d⟩,p,q⟩).1,.bool (learnB b ⟨⟨c,d⟩,p,q⟩).2]):=by
 obtain ⟨me,near,adv,seen,ent,own⟩:=b
 obtain ⟨z1,z2,z3,z4,z5⟩:=hs
 simp only at z1 z2 z3 z4 z5 ra rs
 obtain ⟨R,hR⟩:∃ R,R=DV.tup [eBroker .none (learnB ⟨me,near,adv,seen,ent,own⟩ ⟨⟨c,d⟩,p,q⟩).1,.bool (learnB ⟨me,near,adv,seen,ent,own⟩ ⟨⟨c,d⟩,p,q⟩).2]:=⟨_,rfl⟩
 rw [←hR]
 have hsl:seen.length≤1000000:=by omega
 have hal:adv.length≤1000000:=by omega
 unfold pcF
 rw [goRun_eq _ _ _ _ (by simp [t20])]
 by_cases hm:(⟨c,d⟩:ID)∈seen
 ·simp [t20,eBroker,Tags.none,e75,s75,hsl,hm,resultsOf]
  simp [hR,learnB,hm,Tags.none,eBroker]
 ·simp [t20,eBroker,Tags.none,e75,s75,hsl,hm]
  generalize hF:upd _ 6 _=F
  obtain ⟨f1,k1,k2,k3,k4,k5,k6⟩:=l20 [] (.int .i64 me) (eL false 1 cInt near) (eL false 4 eAdvert adv) (eL false 7 eEntry ent) (eL false 3 eOwn own) false seen c d (ePred p) (.int .i64 q) 42 29 hsl (h:=((heap0.push (.arr 29 6 [.agg [.int .i64 me,eL false 1 cInt near,eL false 4 eAdvert adv,eL false 2 eID seen,eL false 7 eEntry ent,eL false 3 eOwn own]] (some 1))).push (.arr 42 4 [.agg [.int .i64 c,.int .i64 d,ePred p,.int .i64 q]] (some 1))).push (.arr 29 6 [.agg [.int .i64 0,.nsl,.nsl,.nsl,.nsl,.nsl]] (some 1))) (by simp) (by simp) _ 0 F rfl (by omega) (by rw [←hF];simp) (by rw [←hF];simp) (by rw [←hF];simp)
  rw [k1]
  rw [←hF]at k4 k5
  simp at k4 k5
  clear hF k1
  have hlow:=lowIdx_le (fun b=>cmpID b ⟨c,d⟩) seen
  have hlow2:=lowIdx_le (fun b:Advert=>cmpID b.id ⟨c,d⟩) adv
  simp [t20k1,k2,k3,k4,k5,k6,hlow]
  generalize hA:appendD _ _ _ _ _ _=A
  obtain ⟨i1,K1,rfl,o1,x1,y1,j1⟩:=(OwnI.fresh (lo:=3) (ety:=37) (sz:=2) (xs:=[]) (cap:=some 0) (by simp) (by simp)).append (n:=0) rfl (by simp) (by simp) (by simp) hA (by simp;omega) (by decide)
  clear hA
  have a0:=x1.get 0 (by decide)
  have a1:=x1.get 1 (by decide)
  have a2:=x1.get 2 (by decide)
  have q1:=x1.lim
  have w1:=x1.wf
  have n1:=x1.le
  have u1:=o1.lo
  have m0:¬0=i1:=by omega
  have m1:¬i1=0:=by omega
  have m2:¬i1=1:=by omega
  have m3:¬1=i1:=by omega
  simp at a0 a1 a2 q1 o1
  simp [k2,k3,a0,a1,a2,q1,m0,m1,m2,m3,hlow]
  generalize hA:appendD _ _ _ _ _ _=A
  obtain ⟨i2,K2,rfl,o2,x2,y2,j2⟩:=(o1.push (o:=_)).append (by simp [hlow]) (by simp [w1]) (by simp;omega) (by simp [q1]) hA (by simp;omega) (by decide)
  clear hA
  have b0:=x2.get 0 (by decide)
  have b1:=x2.get 1 (by decide)
  have b2:=x2.get 2 (by decide)
  have q2:=x2.lim
  have w2:=x2.wf
  have n2:=x2.le
  have u2:=o2.lo
  have c0:¬0=K1.n:=by omega
  have c1:¬1=K1.n:=by omega
  have c2:¬2=K1.n:=by omega
  have m4:¬i2=0:=by omega
  have m5:¬i2=1:=by omega
  simp [a0,a1,a2,q1,c0,c1,c2]at b0 b1 b2 q2 o2
  simp [k2,k3,k6,b0,b1,b2,q2,m0,m1,m2,m3,m4,m5,hlow]
  generalize hA:appendD _ _ _ _ _ _=A
  obtain ⟨i3,K3,rfl,o3,x3,y3,j3⟩:=o2.append (by simp [hlow]) w2 n2 (by omega) hA (by simp;omega) (by decide)
  clear hA
  have d0:=x3.get 0 (by decide)
  have d1:=x3.get 1 (by decide)
  have d2:=x3.get 2 (by decide)
  have q3:=x3.lim
  have w3:=x3.wf
  have n3:=x3.le
  have l3:0<K3.n:=by omega
  rw [b0]at d0
  rw [b1]at d1
  rw [b2]at d2
  rw [q2]at q3
  have hlen:(List.take (lowIdx (fun b=>cmpID b ⟨c,d⟩) seen) (List.map eID seen)++[DV.agg [.int .i64 c,.int .i64 d]]++List.drop (lowIdx (fun b=>cmpID b ⟨c,d⟩) seen) (List.map eID seen))=(insAt (fun x=>x) ⟨c,d⟩ seen).map eID:=by simp [insAt,eID]
  have o3':OwnI 3 K3 i3 37 2 ((insAt (fun x=>x) ⟨c,d⟩ seen).map eID):=by rw [←hlen];simpa using o3
  simp [k2,k3,b0,d0,q3,w3,l3,turn]
  generalize hF:upd _ 6 _=F
  generalize hK:K3.set 0 _=K4
  have hmin:min (lowIdx (fun b=>cmpID b ⟨c,d⟩) seen) seen.length=lowIdx (fun b=>cmpID b ⟨c,d⟩) seen:=by omega
  have e0:K4.get 0=some (.arr 29 6 [.agg [.int .i64 me,eL false 1 cInt near,eL false 4 eAdvert adv,.sl i3 2 0 ((insAt (fun x=>x) ⟨c,d⟩ seen).map eID).length,eL false 7 eEntry ent,eL false 3 eOwn own]] (some 1)):=by
   rw [←hK];simp [w3,l3,hmin,insAt];omega
  have e1:K4.get 1=some (.arr 42 4 [.agg [.int .i64 c,.int .i64 d,ePred p,.int .i64 q]] (some 1)):=by
   rw [←hK];simp [w3,l3,d1]
  have e2:K4.get 2=some (.arr 29 6 [.agg [.int .i64 0,.nsl,.nsl,.nsl,.nsl,.nsl]] (some 1)):=by
   rw [←hK];simp [w3,l3,d2]
  have w4:WF K4:=by rw [←hK];exact w3.set
  have q4:K4.lim=0:=by rw [←hK];exact q3
  have n4:3≤K4.n:=by rw [←hK];exact n3
  have o4:OwnI 3 K4 i3 37 2 ((insAt (fun x=>x) ⟨c,d⟩ seen).map eID):=by rw [←hK];exact o3'.setLow w3 (by decide) l3
  have hF2:F 2=.ptr 0 6 0 0:=by rw [←hF];simp [k2]
  have hF3:F 3=.ptr 1 4 0 0:=by rw [←hF];simp [k3]
  have hF4:F 4=.ptr 2 6 0 0:=by rw [←hF];simp [k4]
  have hF5:F 5=.bool false:=by rw [←hF];simp [k5]
  have hF6:F 6=.int .i64 ((0:Nat):Int):=by rw [←hF];simp
  clear hF hK d0 d1 d2 q3 w3 n3 l3 o3 o3' x3 y3 j3 b0 b1 b2 q2 w2 n2 u2 x2 y2 j2 o2 a0 a1 a2 q1 w1 n1 u1 x1 y1 j1 o1 c0 c1 c2 m0 m1 m2 m3 m4 m5 k2 k3 k4 k5 k6 hlen
  obtain ⟨f2,k1,k2,k3,k4,k5,k6⟩:=m20 [] K4 _ _ _ _ _ false adv c d (ePred p) (.int .i64 q) _ _ hal e0 e1 _ 0 F rfl (by omega) hF2 hF3 hF6
  rw [k1]
  rw [hF4]at k4
  rw [hF5]at k5
  have u3:=o4.lo
  have v0:¬0=K4.n:=by omega
  have v1:¬1=K4.n:=by omega
  have v2:¬2=K4.n:=by omega
  have v3:¬K4.n=0:=by omega
  have v4:¬K4.n=1:=by omega
  simp [t20k0,k2,k3,k4,k5,k6,hlow2,e0,e1,e2,q4,w4,v0,v1,v2,v3,v4]
  generalize hA:appendD _ _ _ _ _ _=A
  obtain ⟨i1,K1,rfl,o1,x1,y1,j1⟩:=(OwnI.fresh (lo:=3) (ety:=42) (sz:=4) (xs:=[]) (cap:=some 0) (by omega) n4).append (n:=0) rfl w4.push (by simp;omega) (by simp [q4]) hA (by simp;omega) (by decide)
  clear hA
  have a0:=x1.get 0 (by decide)
  have a1:=x1.get 1 (by decide)
  have a2:=x1.get 2 (by decide)
  have q1:=x1.lim
  have w1:=x1.wf
  have n1:=x1.le
  have u1:=o1.lo
  have m0:¬0=i1:=by omega
  have m1:¬i1=0:=by omega
  have m2:¬i1=1:=by omega
  have m3:¬1=i1:=by omega
  simp [e0,e1,e2,v0,v1,v2,q4]at a0 a1 a2 q1 o1
  have s1:=(o4.push).keep y1 x1.lim (by decide)
  simp [k2,k3,e0,e1,e2,a0,a1,a2,q1,m0,m1,m2,m3,v3,v4,hlow2]
  generalize hA:appendD _ _ _ _ _ _=A
  obtain ⟨i2,K2,rfl,o2,x2,y2,j2⟩:=(o1.push (o:=_)).append (by simp [hlow2]) (by simp [w1]) (by simp;omega) (by simp [q1]) hA (by simp;omega) (by decide)
  clear hA
  have b0:=x2.get 0 (by decide)
  have b1:=x2.get 1 (by decide)
  have b2:=x2.get 2 (by decide)
  have q2:=x2.lim
  have w2:=x2.wf
  have n2:=x2.le
  have u2:=o2.lo
  have c0:¬0=K1.n:=by omega
  have c1:¬1=K1.n:=by omega
  have c2:¬2=K1.n:=by omega
  have m4:¬i2=0:=by omega
  have m5:¬i2=1:=by omega
  simp [a0,a1,a2,q1,c0,c1,c2]at b0 b1 b2 q2 o2
  have s2:=(s1.push).keep y2 x2.lim (by decide)
  simp [k2,k3,k6,e0,e1,b0,b1,b2,q2,m0,m1,m2,m3,m4,m5,v3,v4,hlow2]
  generalize hA:appendD _ _ _ _ _ _=A
  obtain ⟨i4,K3,rfl,o3,x3,y3,j3⟩:=o2.append (by simp [hlow2]) w2 n2 (by omega) hA (by simp;omega) (by decide)
  clear hA
  have d0:=x3.get 0 (by decide)
  have d2:=x3.get 2 (by decide)
  have q3:=x3.lim
  have w3:=x3.wf
  have n3:=x3.le
  have l3:0<K3.n:=by omega
  have l32:2<K3.n:=by omega
  rw [b0]at d0
  rw [b2]at d2
  rw [q2]at q3
  have s3:=s2.keep y3 x3.lim (by decide)
  have hlen:(List.take (lowIdx (fun b:Advert=>cmpID b.id ⟨c,d⟩) adv) (List.map eAdvert adv)++DV.agg [.int .i64 c,.int .i64 d,ePred p,.int .i64 q]::List.drop (lowIdx (fun b:Advert=>cmpID b.id ⟨c,d⟩) adv) (List.map eAdvert adv))=(insAt (fun a=>a.id) ⟨⟨c,d⟩,p,q⟩ adv).map eAdvert:=by simp [insAt,eAdvert]
  simp only [List.append_assoc,List.singleton_append]at o3
  rw [hlen]at o3
  have hmin2:min (lowIdx (fun b:Advert=>cmpID b.id ⟨c,d⟩) adv) adv.length=lowIdx (fun b:Advert=>cmpID b.id ⟨c,d⟩) adv:=by omega
  have hln:(insAt (fun a=>a.id) ⟨⟨c,d⟩,p,q⟩ adv).length=lowIdx (fun b:Advert=>cmpID b.id ⟨c,d⟩) adv+1+(adv.length-lowIdx (fun b:Advert=>cmpID b.id ⟨c,d⟩) adv):=by simp [insAt,hmin2];omega
  have r3:=fun o o'=>((o3.toR.setLow (o:=o) w3 (by decide) l3).setLow (o:=o') w3.set (by decide) l32).resolve (n:=198) false (fun y _=>(plain_advert y).1) (by decide)
  have r4:=fun o o'=>((s3.toR.setLow (o:=o) w3 (by decide) l3).setLow (o:=o') w3.set (by decide) l32).resolve (n:=198) false (fun y _=>(plain_id y).1) (by decide)
  simp only [List.length_map,hln]at r3
  simp only [List.length_map]at r4
  simp [k2,k3,k4,k5,e0,b0,d0,d2,q3,w3,l3,l32,turn,hmin2,v3,v4,m1,m4,r3,r4,resultsOf]
  simp [hR,learnB,hm,Tags.none,eBroker]
end Go.Dm.Tc
/-
What functions of the program compute,part 9: what may be a name,a constraint,a predicate.
-/
namespace Go.Dm.Tc
def letters (s:List UInt8):Bool:=s.all fun b=>decide (97≤b.toNat) && decide (b.toNat≤122)
def nameOk (s:List UInt8):Bool:=letters s && !decide (s=[]) && decide (s.length≤12)
theorem l185 (xs:List UInt8) (hl:xs.length≤1000000) :
  ∀(rest:List UInt8) (i:Nat) (f:FEnv) (h:Heap),xs.drop i=rest→f 0=.str xs→f 5=.int .i64 xs.length→f 6=.int .i64 i →
  pcOut (fin [.t 2] (run D 27 [.block 0,.seq t185k0] (.loop t185l0) f h))=some (.bool (letters rest && !decide (xs=[]) && decide (xs.length≤12))):=by
 intro rest
 induction rest with
 | nil =>
  intro i f h hd h0 h5 h6
  have hi:=drop_nil hd
  have:¬(i<xs.length):=by omega
  rw [run_loop_of t185l0.eq_1]
  by_cases hx:xs=[]
  ·subst hx
   have h0i:¬(i:Int)<0:=by omega
   simp [t185k0,h0,h5,h6,h0i,letters]
  ·have hb:(xs == ([]:List UInt8))=false:=by cases xs<;>simp_all
   simp [t185k0,h0,h5,h6,this,hx,hb,letters]
   omega
 | cons e rest ih =>
  intro i f h hd h0 h5 h6
  obtain ⟨hi,he,hd'⟩:=drop_at hd
  have hq:∀k,indexStrV (.str xs) (.int k (i:Int))=some (.int .u8 e.toNat):=fun k=>indexStrV_nat xs k i (by rw [List.getElem?_eq_getElem hi,he])
  rw [run_loop_of t185l0.eq_1]
  by_cases h1:e.toNat<97
  ·have h1':(e.toNat:Int)<97:=by omega
   have hle:letters (e::rest)=false:=by
    have:¬97≤e.toNat:=by omega
    simp only [letters,List.all_cons,decide_eq_false this,Bool.false_and]
   simp [h0,h5,h6,hi,hq,h1',hle]
  ·have h1':¬(e.toNat:Int)<97:=by omega
   by_cases h2:122<e.toNat
   ·have h2':(122:Int)<e.toNat:=by omega
    have hle:letters (e::rest)=false:=by
     have:¬e.toNat≤122:=by omega
     simp only [letters,List.all_cons,decide_eq_false this,Bool.and_false,Bool.false_and]
    simp [h0,h5,h6,hi,hq,h1',h2',hle]
   ·have h2':¬(122:Int)<e.toNat:=by omega
    have hle:letters (e::rest)=letters rest:=by
     have q1:97≤e.toNat:=by omega
     have q2:e.toNat≤122:=by omega
     simp only [letters,List.all_cons,decide_eq_true q1,decide_eq_true q2,Bool.true_and]
    simp [h0,h5,h6,hi,hq,h1',h2',hle]
    rw [wrap64 (by omega) (by omega)]
    refine (ih (i+1) _ h hd' ?_ ?_ ?_).trans ?_<;>simp [h0,h5]
theorem s185 (xs:List UInt8) (hl:xs.length≤1000000):pcF D t185 [.str xs]=some (.bool (nameOk xs)):=by
 unfold pcF
 rw [goRun_eq _ _ _ _ (by simp [t185])]
 simp [t185]
 refine (l185 xs hl xs 0 _ _ rfl ?_ ?_ ?_).trans ?_<;>simp [nameOk]
def rightOne (c : Cons) : Bool :=
  nameOk c.name &&
    (if c.kind = 1 then decide (c.lo ≤ c.hi) && decide (c.text = [])
     else if c.kind = 3 then !decide (c.text.length = 12) && (decide (c.lo = 0) && decide (c.hi = 0) && decide (c.text.length ≤ 12))
     else if c.kind = 2 then decide (c.lo = 0) && decide (c.hi = 0) && decide (c.text.length ≤ 12)
     else false)
theorem s151 (nm:List UInt8) (k lo hi:Int) (tx:List UInt8) (hl:nm.length≤1000000) :
  pcF D t151 [.agg [.str nm,.int .i64 k,.int .i64 lo,.int .i64 hi,.str tx]]=some (.bool (rightOne ⟨nm,k,lo,hi,tx⟩)):=by
 unfold pcF
 rw [goRun_eq _ _ _ _ (by simp [t151])]
 cases hn:nameOk nm with
 | false=>simp [t151,e185,s185,hl,hn,rightOne]
 | true =>
  have hlen:∀n:Nat,((tx.length:Int) == (n:Int))=decide (tx.length=n):=fun n=>by
   by_cases h:tx.length=n
   ·simp [h]
   ·have h':¬(tx.length:Int)=n:=by omega
    simp [h,h']
  have hnil:(tx == ([]:List UInt8))=decide (tx=[]):=by cases tx<;>simp
  by_cases k1:k=1
  ·subst k1
   by_cases h1:lo≤hi
   ·simp [t151,e185,s185,hl,hn,rightOne,h1,hnil]
   ·simp [t151,e185,s185,hl,hn,rightOne,h1,hnil]
  ·by_cases k3:k=3
   ·subst k3
    by_cases h12:tx.length=12
    ·simp [t151,e185,s185,hl,hn,rightOne,h12]
    ·have h12':¬(tx.length:Int)=12:=by omega
     by_cases hlo:lo=0
     ·by_cases hhi:hi=0
      ·simp [t151,e185,s185,hl,hn,rightOne,h12,h12',hlo,hhi]
       omega
      ·simp [t151,e185,s185,hl,hn,rightOne,h12,h12',hlo,hhi]
     ·simp [t151,e185,s185,hl,hn,rightOne,h12,h12',hlo]
   ·by_cases k2:k=2
    ·subst k2
     by_cases hlo:lo=0
     ·by_cases hhi:hi=0
      ·simp [t151,e185,s185,hl,hn,rightOne,hlo,hhi]
       omega
      ·simp [t151,e185,s185,hl,hn,rightOne,hlo,hhi]
     ·simp [t151,e185,s185,hl,hn,rightOne,hlo]
    ·simp [t151,e185,s185,hl,hn,rightOne,k1,k2,k3]
def rightA:Option (List UInt8)→Pred→Bool
 | _,[]=>true
 | prev,c::r=>rightOne c && (match prev with|none=>true|some n=>Go.Op.bytesLess n c.name) && rightA (some c.name) r
def rightP (p:Pred):Bool:=rightA none p && decide (p.length≤5)
def NamesP (p:Pred):Prop:=p.length≤1000000∧∀c∈p,c.name.length≤1000000
theorem l105 (p:Pred) (hp:NamesP p) :
  ∀(rest:Pred) (prev:Option (List UInt8)) (i:Nat) (f:FEnv) (h:Heap),p.drop i=rest→((i=0∧prev=none)∨∃ j c,i=j+1∧p[j]?=some c∧prev=some c.name) →
   f 0=eL false 5 eCons p→f 5=eL false 5 eCons p→f 6=.int .i64 p.length→f 7=.int .i64 i→h.lim=0 →
  pcOut (fin [.t 2] (run D 34 [.block 0,.seq t105k0] (.loop t105l0) f h))=some (.bool (rightA prev rest && decide (p.length≤5))):=by
 obtain ⟨hp1,hp2⟩:=hp
 intro rest
 induction rest with
 | nil =>
  intro prev i f h hd hv h0 h5 h6 h7 hlim
  have hi:=drop_nil hd
  have:¬(i<p.length):=by omega
  rw [run_loop_of t105l0.eq_1]
  simp [t105k0,h0,h6,h7,this,rightA]
  omega
 | cons c rest ih =>
  intro prev i f h hd hv h0 h5 h6 h7 hlim
  obtain ⟨hi,he,hd'⟩:=drop_at hd
  have hnm:c.name.length≤1000000:=hp2 c (by rw [←he];exact List.getElem_mem hi)
  rw [run_loop_of t105l0.eq_1]
  cases hr:rightOne c with
  | false =>
   have hr':rightOne ⟨c.name,c.kind,c.lo,c.hi,c.text⟩=false:=hr
   simp [h0,h5,h6,h7,hi,he,hlim,eCons,e151,s151,hnm,hr',rightA,hr]
  | true =>
   have hr':rightOne ⟨c.name,c.kind,c.lo,c.hi,c.text⟩=true:=hr
   rcases hv with ⟨i0,hpv⟩|⟨j,c0,ij,hj,hpv⟩
   ·subst hpv
    have hpos:¬0<i:=by omega
    simp [h0,h5,h6,h7,hi,he,hlim,eCons,e151,s151,hnm,hr',hpos]
    rw [wrap64 (by omega) (by omega)]
    refine (ih (some c.name) (i+1) _ _ hd' (.inr ⟨i,c,rfl,by rw [List.getElem?_eq_getElem hi,he],rfl⟩) ?_ ?_ ?_ ?_ ?_).trans ?_<;>simp [h0,h5,h6,eCons,hlim,rightA,hr]
   ·subst hpv
    subst ij
    have hpos:(0:Int)<(j:Int)+1:=by omega
    have hw:IntKind.i64.wrap (j:Int)=j:=wrap64 (by omega) (by omega)
    have hjj:j<p.length:=by omega
    have hlt:(j:Int)+1<p.length:=by omega
    have hj':p[j]=c0:=by rw [List.getElem?_eq_getElem hjj]at hj;exact Option.some.inj hj
    cases hb:Go.Op.bytesLess c0.name c.name with
    | false=>simp [h0,h5,h6,h7,hi,he,hlim,eCons,e151,s151,hnm,hr',hpos,hlt,hw,hjj,hj',hb,rightA]
    | true =>
     simp [h0,h5,h6,h7,hi,he,hlim,eCons,e151,s151,hnm,hr',hpos,hlt,hw,hjj,hj',hb]
     rw [wrap64 (by omega) (by omega)]
     refine (ih (some c.name) (j+1+1) _ _ hd' (.inr ⟨j+1,c,rfl,by rw [List.getElem?_eq_getElem hi,he],rfl⟩) ?_ ?_ ?_ ?_ ?_).trans ?_<;>simp [h0,h5,h6,eCons,hlim,rightA,hr,hb]
theorem s105 (p:Pred) (hp:NamesP p):pcF D t105 [ePred p]=some (.bool (rightP p)):=by
 unfold pcF
 rw [goRun_eq _ _ _ _ (by simp [t105])]
 simp only [ePred]
 simp [t105]
 refine (l105 p hp p none 0 _ _ rfl (.inl ⟨rfl,rfl⟩) ?_ ?_ ?_ ?_ ?_).trans ?_<;>simp [rightP]
end Go.Dm.Tc
/-
What functions of the program compute,part 10: is a broker right?
-/
namespace Go.Dm.Tc
def linkB (b:Broker) (n:Int):Bool:=decide (n=-1) || b.near.contains n
theorem s104 (x0 x2 x3 x4 x5:DV) (t:Bool) (l:List Int) (n:Int) (hl:l.length≤1000000) :
  pcF D t104 [.agg [x0,eL t 1 cInt l,x2,x3,x4,x5],.int .i64 n]=some (.bool (decide (n=-1) || l.contains n)):=by
 unfold pcF
 rw [goRun_eq _ _ _ _ (by simp [t104])]
 by_cases h:n=-1
 ·simp [t104,h]
 ·simp [t104,h,e150,s150,hl]
theorem s92 (a b:Int):pcF D t92 [.int .i64 a,.int .i64 b]=some (.bool (decide (a<b))):=by
 unfold pcF
 rw [goRun_eq _ _ _ _ (by simp [t92])]
 simp [t92]
theorem s95 (a b c d:Int) (p q r s:DV):pcF D t95 [.agg [.int .i64 a,.int .i64 b,p,q],.agg [.int .i64 c,.int .i64 d,r,s]]=some (.bool (ltID ⟨a,b⟩ ⟨c,d⟩)):=by
 unfold pcF
 rw [goRun_eq _ _ _ _ (by simp [t95])]
 simp [t95,e56,s56]
theorem s97 (a b c d:Int) (p r:DV):pcF D t97 [.agg [.int .i64 a,.int .i64 b,p],.agg [.int .i64 c,.int .i64 d,r]]=some (.bool (ltID ⟨a,b⟩ ⟨c,d⟩)):=by
 unfold pcF
 rw [goRun_eq _ _ _ _ (by simp [t97])]
 simp [t97,e56,s56]
def cmpE (t1 s1 t2 s2:ID):Int:=orI (cmpID t1 t2) (cmpID s1 s2)
def ltE (x y:Entry):Bool:=decide (cmpE x.tree x.sub y.tree y.sub<0)
theorem s99 (a b c d a' b' c' d':Int) (p q r p' q' r':DV) :
  pcF D t99 [.agg [.int .i64 a,.int .i64 b,.int .i64 c,.int .i64 d,p,q,r],.agg [.int .i64 a',.int .i64 b',.int .i64 c',.int .i64 d',p',q',r']]=some (.bool (decide (cmpE ⟨a,b⟩ ⟨c,d⟩ ⟨a',b'⟩ ⟨c',d'⟩<0))):=by
 unfold pcF
 rw [goRun_eq _ _ _ _ (by simp [t99])]
 simp [t99,e101,s101,e100,mkIsl,s100,cmpE]
 exact decide_eq_decide.2 Iff.rfl
theorem rising_of {α:Type} {key:α→ID}:∀{l:List α},risesB (fun x y=>ltID (key x) (key y)) l=true→Rising (l.map key)
 | [],_=>List.Pairwise.nil
 | [a],_=>by simp [Rising]
 | a::b::r,h=>by
  simp only [risesB,Bool.and_eq_true]at h
  have ih:Rising ((b::r).map key):=rising_of h.2
  have h1:cmpID (key a) (key b)<0:=by simpa [ltID] using h.1
  unfold Rising at *
  rw [List.map_cons,List.pairwise_cons]
  refine ⟨fun x hx=>?_,ih⟩
  rw [List.map_cons]at hx ih
  rcases List.mem_cons.1 hx with rfl|hx
  ·exact h1
  ·exact cmpID_trans h1 ((List.pairwise_cons.1 ih).1 x hx)
theorem of_rising {α:Type} {key:α→ID}:∀{l:List α},Rising (l.map key)→risesB (fun x y=>ltID (key x) (key y)) l=true
 | [],_=>rfl
 | [a],_=>rfl
 | a::b::r,h=>by
  unfold Rising at h
  rw [List.map_cons,List.pairwise_cons]at h
  simp only [risesB,Bool.and_eq_true]
  refine ⟨?_,of_rising (l:=b::r) h.2⟩
  have:=h.1 (key b) (by simp)
  simpa [ltID] using this
def rightEnt (b:Broker) (e:Entry):Bool :=
 match b.adverts.find? (fun a=>a.id=e.tree) with
 | none=>false
 | some a=>linkB b e.frm && (!decide (e.frm=a.parent) || decide (a.parent=-1)) && !(e.up && decide (a.parent=-1)) && rightP e.pred
theorem s108 (me:Int) (x3 x4 x5:DV) (t u:Bool) (near:List Int) (l:List Advert) (e:Entry) (b:Broker) (hb:b.near=near) (hb2:b.adverts=l) (hr:Rising (l.map (·.id))) (hl:l.length≤1000000) (hn:near.length≤1000000) (f3:Flat 20 x3) (f4:Flat 20 x4) (f5:Flat 20 x5) (hp:NamesP e.pred) :
  pcF D t108 [.agg [.int .i64 me,eL u 1 cInt near,eL t 4 eAdvert l,x3,x4,x5],.agg [.int .i64 e.tree.client,.int .i64 e.tree.seq,.int .i64 e.sub.client,.int .i64 e.sub.seq,ePred e.pred,.int .i64 e.frm,.bool e.up]]=some (.bool (rightEnt b e)):=by
 have g3:∀tg h,resolve tg h 199 x3=some x3:=fun tg h=>f3 _ _ _ (by decide)
 have g4:∀tg h,resolve tg h 199 x4=some x4:=fun tg h=>f4 _ _ _ (by decide)
 have g5:∀tg h,resolve tg h 199 x5=some x5:=fun tg h=>f5 _ _ _ (by decide)
 have hfd:=fun c d=>s23 (.int .i64 me) (eL u 1 cInt near) x3 x4 x5 t l c d hr hl ((flat_int _ _).mono (by decide)) ((flat_eL _ _ _ _).mono (by decide)) f3 f4 f5
 subst hb
 subst hb2
 unfold pcF
 rw [goRun_eq _ _ _ _ (by simp [t108])]
 cases hq:b.adverts.find? (fun a=>a.id=⟨e.tree.client,e.tree.seq⟩) with
 | none =>
  have hq':b.adverts.find? (fun a=>a.id=e.tree)=none:=hq
  simp [t108,g3,g4,g5,e23,hfd,hq,hasO,advZero,eAdvert,turn,rightEnt,hq']
 | some a =>
  have hq':b.adverts.find? (fun a=>a.id=e.tree)=some a:=hq
  have hlk:=s104 (.int .i64 me) (eL t 4 eAdvert b.adverts) x3 x4 x5 u b.near e.frm hn
  have hrt:=s105 e.pred hp
  obtain ⟨L,hL⟩:∃ L,(decide (e.frm=-1) || b.near.contains e.frm)=L:=⟨_,rfl⟩
  obtain ⟨R,hR⟩:∃ R,rightP e.pred=R:=⟨_,rfl⟩
  rw [hL]at hlk
  rw [hR]at hrt
  have hlkB:linkB b e.frm=L:=hL
  cases L with
  | false=>simp [t108,g3,g4,g5,e23,hfd,hq,hasO,eAdvert,turn,rightEnt,hq',e104,hlk,hlkB]
  | true =>
   by_cases hpl:a.parent=-1
   ·cases hup:e.up with
    | true =>
     by_cases hfp:e.frm=-1
     ·simp [t108,g3,g4,g5,e23,hfd,hq,hasO,eAdvert,turn,rightEnt,hq',e104,hlk,hlkB,hpl,eq_true hfp,hup]
     ·simp [t108,g3,g4,g5,e23,hfd,hq,hasO,eAdvert,turn,rightEnt,hq',e104,hlk,hlkB,hpl,hfp,hup]
    | false =>
     by_cases hfp:e.frm=-1
     ·cases R<;>simp [t108,g3,g4,g5,e23,hfd,hq,hasO,eAdvert,turn,rightEnt,hq',e104,hlk,hlkB,hpl,eq_true hfp,hup,e105,hrt,hR]
     ·cases R<;>simp [t108,g3,g4,g5,e23,hfd,hq,hasO,eAdvert,turn,rightEnt,hq',e104,hlk,hlkB,hpl,hfp,hup,e105,hrt,hR]
   ·by_cases hfp:e.frm=a.parent
    ·simp [t108,g3,g4,g5,e23,hfd,hq,hasO,eAdvert,turn,rightEnt,hq',e104,hlk,hlkB,hpl,eq_true hfp]
    ·cases hup:e.up<;>cases R<;>simp [t108,g3,g4,g5,e23,hfd,hq,hasO,eAdvert,turn,rightEnt,hq',e104,hlk,hlkB,hpl,hfp,hup,e105,hrt,hR]
end Go.Dm.Tc
/-
What functions of the program compute,part 11: is a broker right? All of it.
-/
namespace Go.Dm.Tc
structure SizedN (b:Broker):Prop where
 adv:∀x∈b.adverts,NamesP x.pred
 ent:∀x∈b.entries,NamesP x.pred
 own:∀x∈b.owns,NamesP x.pred
def rightAdv (b:Broker) (a:Advert):Bool:=decide (a.id∈b.seen) && linkB b a.parent && rightP a.pred
def bCells (t:Tags) (b:Broker):List DV:=[.int .i64 b.me,eL t.near 1 cInt b.near,eL t.adverts 4 eAdvert b.adverts,eL t.seen 2 eID b.seen,eL t.entries 7 eEntry b.entries,eL t.owns 3 eOwn b.owns]
theorem s103 (tg:Bool) (t:Tags) (b:Broker) (a:Advert) (hs:Sized b) (hr:Rising b.seen) (hp:NamesP a.pred) :
  pcF D t103 [.agg [.int .i64 a.id.client,.int .i64 a.id.seq,ePred a.pred,.int .i64 a.parent],.iptr tg [.int .i64 b.me,eL t.near 1 cInt b.near,eL t.adverts 4 eAdvert b.adverts,eL t.seen 2 eID b.seen,eL t.entries 7 eEntry b.entries,eL t.owns 3 eOwn b.owns] 0]=some (.bool (!rightAdv b a)):=by
 obtain ⟨z1,z2,z3,z4,z5⟩:=hs
 have f:=fun {α:Type} (t:Bool) (sz:Nat) (e:α→DV) (xs:List α)=>(flat_eL t sz e xs).mono (show 1≤20 by decide)
 have hsn:=s57 (.int .i64 b.me) (eL t.near 1 cInt b.near) (eL t.adverts 4 eAdvert b.adverts) (eL t.entries 7 eEntry b.entries) (eL t.owns 3 eOwn b.owns) t.seen b.seen a.id.client a.id.seq hr (by omega) ((flat_int _ _).mono (by decide)) (f _ _ _ _) (f _ _ _ _) (f _ _ _ _) (f _ _ _ _)
 have hlk:=s104 (.int .i64 b.me) (eL t.adverts 4 eAdvert b.adverts) (eL t.seen 2 eID b.seen) (eL t.entries 7 eEntry b.entries) (eL t.owns 3 eOwn b.owns) t.near b.near a.parent (by omega)
 have hrt:=s105 a.pred hp
 obtain ⟨S,hS⟩:∃ S,decide (a.id∈b.seen)=S:=⟨_,rfl⟩
 obtain ⟨L,hL⟩:∃ L,linkB b a.parent=L:=⟨_,rfl⟩
 obtain ⟨R,hR⟩:∃ R,rightP a.pred=R:=⟨_,rfl⟩
 rw [show decide ((⟨a.id.client,a.id.seq⟩:ID)∈b.seen)=S from hS]at hsn
 rw [show (decide (a.parent=-1) || b.near.contains a.parent)=L from hL]at hlk
 rw [hR]at hrt
 unfold pcF
 rw [goRun_eq _ _ _ _ (by simp [t103])]
 cases S<;>cases L<;>cases R<;>simp [t103,e57,hsn,e104,hlk,e105,hrt,rightAdv,hS,hL,hR]
theorem s107 (tg:Bool) (t:Tags) (b:Broker) (e:Entry) (hs:Sized b) (hr:Rising (b.adverts.map (·.id))) (hp:NamesP e.pred) :
  pcF D t107 [.agg [.int .i64 e.tree.client,.int .i64 e.tree.seq,.int .i64 e.sub.client,.int .i64 e.sub.seq,ePred e.pred,.int .i64 e.frm,.bool e.up],.iptr tg [.int .i64 b.me,eL t.near 1 cInt b.near,eL t.adverts 4 eAdvert b.adverts,eL t.seen 2 eID b.seen,eL t.entries 7 eEntry b.entries,eL t.owns 3 eOwn b.owns] 0]=some (.bool (!rightEnt b e)):=by
 obtain ⟨z1,z2,z3,z4,z5⟩:=hs
 have f:=fun {α:Type} (t:Bool) (sz:Nat) (e:α→DV) (xs:List α)=>(flat_eL t sz e xs).mono (show 1≤20 by decide)
 have hre:=s108 b.me (eL t.seen 2 eID b.seen) (eL t.entries 7 eEntry b.entries) (eL t.owns 3 eOwn b.owns) t.adverts t.near b.near b.adverts e b rfl rfl hr (by omega) (by omega) (f _ _ _ _) (f _ _ _ _) (f _ _ _ _) hp
 unfold pcF
 rw [goRun_eq _ _ _ _ (by simp [t107])]
 simp [t107,e108,hre]
theorem s110 (a b:Int) (p:Pred) (hp:NamesP p):pcF D t110 [.agg [.int .i64 a,.int .i64 b,ePred p]]=some (.bool (!rightP p)):=by
 unfold pcF
 rw [goRun_eq _ _ _ _ (by simp [t110])]
 simp [t110,e105,s105,hp]
def rightRows (b:Broker):Bool :=
 risesB (fun x y=>decide (x<y)) b.near && risesB (fun x y=>ltID x y) b.seen && risesB (fun x y:Advert=>ltID x.id y.id) b.adverts && risesB (fun x y:OwnS=>ltID x.id y.id) b.owns && risesB ltE b.entries
def rightB (b:Broker):Bool :=
 rightRows b && !(b.adverts.any fun a=>!rightAdv b a) && !(b.entries.any fun e=>!rightEnt b e) && !(b.owns.any fun o=>!rightP o.pred)
set_option maxRecDepth 8000 in
theorem s27 (t:Tags) (b:Broker) (hs:Sized b) (hp:SizedN b):pcF D t27 [eBroker t b]=some (.bool (rightB b)):=by
 have hs':=hs
 obtain ⟨z1,z2,z3,z4,z5⟩:=hs'
 have q1:=s91 t.near b.near 92 (fun x y=>decide (x<y)) (fun x _ y _ h=>by simp [cInt,e92,s92]) (by omega)
 have q2:=s93 t.seen b.seen 56 (fun x y=>ltID x y) (fun x _ y _ h=>by simp [eID,e56,s56]) (by omega)
 have q3:=s94 t.adverts b.adverts 95 (fun x y=>ltID x.id y.id) (fun x _ y _ h=>by simp [eAdvert,e95,s95]) (by omega)
 have q4:=s96 t.owns b.owns 97 (fun x y=>ltID x.id y.id) (fun x _ y _ h=>by simp [eOwn,e97,s97]) (by omega)
 have q5:=s98 t.entries b.entries 99 ltE (fun x _ y _ h=>by simp [eEntry,e99,s99,ltE]) (by omega)
 have q8:=s109 t.owns b.owns 110 [] (fun o=>!rightP o.pred) (by simp) (fun x hx h=>by simp [eOwn,e110,s110,hp.own x hx]) (by omega)
 unfold pcF
 rw [goRun_eq _ _ _ _ (by simp [t27])]
 simp only [eBroker]
 cases h1:risesB (fun x y=>decide (x<y)) b.near with
 | false =>
  rw [h1]at q1
  simp [t27,e91,q1,rightB,rightRows,h1]
 | true =>
 rw [h1]at q1
 cases h2:risesB (fun x y=>ltID x y) b.seen with
 | false =>
  rw [h2]at q2
  simp [t27,e91,q1,e93,q2,rightB,rightRows,h1,h2]
 | true =>
 rw [h2]at q2
 cases h3:risesB (fun x y:Advert=>ltID x.id y.id) b.adverts with
 | false =>
  rw [h3]at q3
  simp [t27,e91,q1,e93,q2,e94,q3,rightB,rightRows,h1,h2,h3]
 | true =>
 rw [h3]at q3
 cases h4:risesB (fun x y:OwnS=>ltID x.id y.id) b.owns with
 | false =>
  rw [h4]at q4
  simp [t27,e91,q1,e93,q2,e94,q3,e96,q4,rightB,rightRows,h1,h2,h3,h4]
 | true =>
 rw [h4]at q4
 cases h5:risesB ltE b.entries with
 | false =>
  rw [h5]at q5
  simp [t27,e91,q1,e93,q2,e94,q3,e96,q4,e98,q5,rightB,rightRows,h1,h2,h3,h4,h5]
 | true =>
 rw [h5]at q5
 have rs:Rising b.seen:=by have:=rising_of (key:=fun a:ID=>a) h2;simpa using this
 have ra:Rising (b.adverts.map (·.id)):=rising_of (key:=fun a:Advert=>a.id) h3
 have q6:=s102 t.adverts b.adverts 103 [.iptr true [.int .i64 b.me,eL t.near 1 cInt b.near,eL t.adverts 4 eAdvert b.adverts,eL t.seen 2 eID b.seen,eL t.entries 7 eEntry b.entries,eL t.owns 3 eOwn b.owns] 0] (fun a=>!rightAdv b a) (fun x hx=>by
  simp only [List.mem_singleton]at hx;subst hx;exact (flat_iptr _ _ _).mono (by decide)) (fun x hx h=>by
  simp [eAdvert,e103,s103 true t b x hs rs (hp.adv x hx)]) (by omega)
 have q7:=s106 t.entries b.entries 107 [.iptr true [.int .i64 b.me,eL t.near 1 cInt b.near,eL t.adverts 4 eAdvert b.adverts,eL t.seen 2 eID b.seen,eL t.entries 7 eEntry b.entries,eL t.owns 3 eOwn b.owns] 0] (fun a=>!rightEnt b a) (fun x hx=>by
  simp only [List.mem_singleton]at hx;subst hx;exact (flat_iptr _ _ _).mono (by decide)) (fun x hx h=>by
  simp [eEntry,e107,s107 true t b x hs ra (hp.ent x hx)]) (by omega)
 cases h6:b.adverts.any (fun a=>!rightAdv b a)<;>rw [h6]at q6<;>cases h7:b.entries.any (fun a=>!rightEnt b a)<;>rw [h7]at q7<;>cases h8:b.owns.any (fun o=>!rightP o.pred)<;>rw [h8]at q8 <;>
  simp [t27,e91,q1,e93,q2,e94,q3,e96,q4,e98,q5,e102,q6,e106,q7,e109,q8,rightB,rightRows,h1,h2,h3,h4,h5,-List.any_eq_true,-List.any_eq_false,h6,h7,h8]
end Go.Dm.Tc
/-
What functions of the program compute,part 12: an advertisement forgotten.
-/
namespace Go.Dm.Tc
def without {α:Type} (key:α→ID) (x:ID) (l:List α):List α:=l.filter fun a=>!decide (key a=x)
theorem without_at {α:Type} (key:α→ID) {l:List α} (hr:Rising (l.map key)) {x:ID} {i:Nat} {a:α} (hi:l[i]?=some a) (ha:key a=x):l.take i++l.drop (i+1)=without key x l:=by
 have hlt:i<l.length:=by
  by_cases h:i<l.length
  ·exact h
  ·rw [List.getElem?_eq_none (by omega)]at hi;cases hi
 have hia:l[i]=a:=by rw [List.getElem?_eq_getElem hlt]at hi;exact Option.some.inj hi
 have hne:∀j (hj:j<l.length),j≠i→key l[j]≠x:=by
  intro j hj hji e
  rcases Nat.lt_or_gt_of_ne hji with h|h
  ·have:=List.pairwise_iff_getElem.1 hr j i (by simpa using hj) (by simpa using hlt) h
   simp only [List.getElem_map,hia,ha,e]at this
   rw [cmpID_lt]at this;omega
  ·have:=List.pairwise_iff_getElem.1 hr i j (by simpa using hlt) (by simpa using hj) h
   simp only [List.getElem_map,hia,ha,e]at this
   rw [cmpID_lt]at this;omega
 have h1:(l.take i).filter (fun a=>!decide (key a=x))=l.take i:=by
  rw [List.filter_eq_self]
  intro y hy
  obtain ⟨j,hj,rfl⟩:=List.mem_iff_getElem.1 hy
  rw [List.length_take]at hj
  have:=hne j (by omega) (by omega)
  simpa using this
 have h2:(l.drop (i+1)).filter (fun a=>!decide (key a=x))=l.drop (i+1):=by
  rw [List.filter_eq_self]
  intro y hy
  obtain ⟨j,hj,rfl⟩:=List.mem_iff_getElem.1 hy
  rw [List.length_drop]at hj
  have:=hne (i+1+j) (by omega) (by omega)
  simpa using this
 have h3:(l.drop i).filter (fun a=>!decide (key a=x))=l.drop (i+1):=by
  rw [List.drop_eq_getElem_cons hlt,List.filter_cons,hia,ha,h2];simp
 calc l.take i++l.drop (i+1)=(l.take i++l.drop i).filter (fun a=>!decide (key a=x)):=by rw [List.filter_append,h1,h3]
  _=_:=by rw [List.take_append_drop];rfl
def forgetB (b:Broker) (x:ID) (frm:Int):Broker×Bool :=
 match b.adverts.find? (fun a=>a.id=x) with
 | none=>(b,false)
 | some a=>if a.parent=frm then ({b with adverts:=without (fun a=>a.id) x b.adverts,entries:=without (fun e=>e.tree) x b.entries},true) else (b,false)
end Go.Dm.Tc
/-
What the reference's functions compute,part 3: an advertisement forgotten.
-/
namespace Go.Dm.Tc
theorem keep_trans {ety:Nat} {a b c:Heap} (x:Keep ety a b) (y:Keep ety b c):Keep ety a c:=fun k o hg hne=>y k o (x k o hg hne) hne
theorem l22 (S:List Fr) (h0:Heap) (c d:Int) (t:Bool) (ent:List Entry) (hl:ent.length≤1000000) (hlim:h0.lim=0) (hn:3≤h0.n) (g1:h0.get 1=some (.arr 37 2 [.agg [.int .i64 c,.int .i64 d]] (some 1))) :
  ∀(rest:List Entry) (i:Nat) (acc:List Entry) (f:FEnv) (h:Heap),ent.drop i=rest→acc.length≤i→f 3=.ptr 0 6 0 0→f 4=.ptr 1 2 0 0→f 6=.ptr 2 6 0 0→f 42=eL t 7 eEntry ent→f 43=.int .i64 ent.length→f 44=.int .i64 i →
   OwnR 3 h (f 9) 58 7 (acc.map eEntry)→Ext 3 h0 h→Keep 58 h0 h →
  ∃ f' h',run D 60 (.block 0::.seq t22k0::S) (.loop t22l0) f h=run D 60 S t22k0 f' h'∧f' 3=.ptr 0 6 0 0∧f' 6=.ptr 2 6 0 0∧OwnR 3 h' (f' 9) 58 7 ((acc++without (fun e=>e.tree) ⟨c,d⟩ rest).map eEntry)∧Ext 3 h0 h'∧Keep 58 h0 h':=by
 intro rest
 induction rest with
 | nil =>
  intro i acc f h hd ha h3 h4 h6 h42 h43 h44 ho hx hk
  have hi:=drop_nil hd
  have:¬(i<ent.length):=by omega
  rw [run_loop_of t22l0.eq_1]
  simp [h42,h43,h44,this]
  refine ⟨_,_,rfl,by simp [h3],by simp [h6],?_,hx,hk⟩
  simpa [without] using ho
 | cons e rest ih =>
  intro i acc f h hd ha h3 h4 h6 h42 h43 h44 ho hx hk
  obtain ⟨hi,he,hd'⟩:=drop_at hd
  have hlH:h.lim=0:=hx.lim.trans hlim
  have hg1:=(hx.get 1 (by decide)).trans g1
  have hnh:=hx.le
  have n1:¬1=h.n:=by omega
  have hw:IntKind.i64.wrap ((i:Int)+1)=(i:Int)+1:=wrap64 (by omega) (by omega)
  rw [run_loop_of t22l0.eq_1]
  by_cases hc:e.tree=⟨c,d⟩
  ·have hc1:e.tree.client=c:=by rw [hc]
   have hc2:e.tree.seq=d:=by rw [hc]
   simp [h3,h4,h6,h42,h43,h44,hi,he,hlH,hg1,n1,eEntry,hc1,hc2,hw]
   have hf:without (fun e:Entry=>e.tree) ⟨c,d⟩ (e::rest)=without (fun e:Entry=>e.tree) ⟨c,d⟩ rest:=by simp [without,hc]
   rw [hf,←List.map_append]
   generalize hF:upd _ 44 _=F
   refine ih (i+1) acc F _ hd' (by omega) ?_ ?_ ?_ ?_ ?_ ?_ ?_ hx.push hk.push
   ·rw [←hF];simp [h3]
   ·rw [←hF];simp [h4]
   ·rw [←hF];simp [h6]
   ·rw [←hF];simp [h42]
   ·rw [←hF];simp [h43]
   ·rw [←hF];simp
   ·rw [←hF];simp;exact ho.push
  ·have hc':¬(e.tree.client=c∧e.tree.seq=d):=fun q=>hc (by cases e with|mk t s p q u=>cases t;simp_all)
   have hcb:(e.tree.client == c && e.tree.seq == d)=false:=by
    cases hb:(e.tree.client == c && e.tree.seq == d) with
    | false=>rfl
    | true=>exact absurd (by simpa using hb) hc'
   simp [h3,h4,h6,h42,h43,h44,hi,he,hlH,hg1,n1,eEntry,hcb]
   generalize hA:appendD _ _ _ _ _ _=A
   obtain ⟨v',h',rfl,ho',hx',hk'⟩:=ho.push.push.append hx.push.push.wf (by simp;omega) (by simp [hlH]) hA (by simp;omega) (by decide)
   clear hA
   have hf:without (fun e:Entry=>e.tree) ⟨c,d⟩ (e::rest)=e::without (fun e:Entry=>e.tree) ⟨c,d⟩ rest:=by simp [without,hc]
   rw [hf]
   simp [h44,hw]
   generalize hF:upd _ 44 _=F
   have:=ih (i+1) (acc++[e]) F h' hd' (by simp;omega) (by rw [←hF];simp [h3]) (by rw [←hF];simp [h4]) (by rw [←hF];simp [h6]) (by rw [←hF];simp [h42]) (by rw [←hF];simp [h43]) (by rw [←hF];simp) (by rw [←hF];simp;simpa [eEntry] using ho') (hx.push.push.trans hx') (keep_trans hk.push.push hk')
   simpa using this
theorem find_idx {α:Type} (p:α→Bool) (l:List α):match l.find? p with
  | some a=>∃ i,l.findIdx? p=some i∧l[i]?=some a
  | none=>l.findIdx? p=none:=by
 cases h:l.find? p with
 | none=>simp only;rw [List.findIdx?_eq_none_iff];intro a ha;have:=List.find?_eq_none.1 h a ha;simpa using this
 | some a =>
  simp only
  have h1:=List.find?_some h
  cases hi:l.findIdx? p with
  | none=>rw [List.findIdx?_eq_none_iff]at hi;have:=hi a (List.mem_of_find?_eq_some h);rw [h1]at this;cases this
  | some i =>
   refine ⟨i,rfl,?_⟩
   obtain ⟨hl,hp,hq⟩:=List.findIdx?_eq_some_iff_getElem.1 hi
   obtain ⟨hpa,u1,u2,hab,hn⟩:=List.find?_eq_some_iff_append.1 h
   have:u1.length=i:=by
    rcases Nat.lt_trichotomy u1.length i with hlt|he|hgt
    ·have:=hq u1.length hlt
     subst hab
     simp [h1]at this
    ·exact he
    ·exfalso
     subst hab
     have:=hn (u1[i]'hgt) (List.getElem_mem hgt)
     rw [List.getElem_append_left hgt]at hp
     rw [hp]at this
     cases this
   subst hab
   rw [←this]
   simp
set_option maxRecDepth 8000 in
theorem s22 (b:Broker) (c d q:Int) (hs:Sized b) (ra:Rising (b.adverts.map (·.id))) :
  pcF D t22 [eBroker .none b,.agg [.int .i64 c,.int .i64 d],.int .i64 q]=some (.tup [eBroker .none (forgetB b ⟨c,d⟩ q).1,.bool (forgetB b ⟨c,d⟩ q).2]):=by
 obtain ⟨me,near,adv,seen,ent,own⟩:=b
 obtain ⟨z1,z2,z3,z4,z5⟩:=hs
 simp only at z1 z2 z3 z4 z5 ra
 obtain ⟨R,hR⟩:∃ R,R=DV.tup [eBroker .none (forgetB ⟨me,near,adv,seen,ent,own⟩ ⟨c,d⟩ q).1,.bool (forgetB ⟨me,near,adv,seen,ent,own⟩ ⟨c,d⟩ q).2]:=⟨_,rfl⟩
 rw [←hR]
 have hal:adv.length≤1000000:=by omega
 have hel:ent.length≤1000000:=by omega
 have hfi:=find_idx (fun a:Advert=>decide (a.id=⟨c,d⟩)) adv
 unfold pcF
 rw [goRun_eq _ _ _ _ (by simp [t22])]
 cases hq:adv.find? (fun a=>a.id=⟨c,d⟩) with
 | none =>
  rw [hq]at hfi
  simp only at hfi
  simp [t22,eBroker,Tags.none,e24,s24,hal,hfi,idxOf,resultsOf]
  simp [hR,forgetB,hq,Tags.none,eBroker]
 | some a =>
  rw [hq]at hfi
  simp only at hfi
  obtain ⟨i,hi,hia⟩:=hfi
  have hax:a.id=⟨c,d⟩:=by simpa using List.find?_some hq
  have hilt:i<adv.length:=by
   by_cases h:i<adv.length
   ·exact h
   ·rw [List.getElem?_eq_none (by omega)]at hia;cases hia
  have hneg:¬(i:Int)<0:=by omega
  have hw:IntKind.i64.wrap ((i:Int)+1)=(i:Int)+1:=wrap64 (by omega) (by omega)
  by_cases hpq:a.parent=q
  ·have hwo:=without_at (fun a:Advert=>a.id) ra hia hax
   simp [t22,eBroker,Tags.none,e24,s24,hal,hi,idxOf,hneg,hia,eAdvert,eq_true hpq,Nat.le_of_lt hilt,hw]
   have hil:i≤adv.length:=Nat.le_of_lt hilt
   generalize hA:appendD _ _ _ _ _ _=A
   obtain ⟨i1,K1,rfl,o1,x1,y1,j1⟩:=(OwnI.fresh (lo:=3) (ety:=42) (sz:=4) (xs:=[]) (cap:=some 0) (by simp) (by simp)).append (n:=0) rfl (by simp) (by simp) (by simp) hA (by simp;omega) (by decide)
   clear hA
   have a0:=x1.get 0 (by decide)
   have a1:=x1.get 1 (by decide)
   have a2:=x1.get 2 (by decide)
   have q1:=x1.lim
   have w1:=x1.wf
   have n1:=x1.le
   have u1:=o1.lo
   have m0:¬0=i1:=by omega
   have m1:¬i1=0:=by omega
   have m2:¬i1=1:=by omega
   have m3:¬1=i1:=by omega
   simp at a0 a1 a2 q1 o1
   simp [a0,a1,a2,q1,m0,m1,m2,m3,hil,hw,hilt,Nat.succ_le_of_lt hilt]
   generalize hA:appendD _ _ _ _ _ _=A
   obtain ⟨i2,K2,rfl,o2,x2,y2,j2⟩:=o1.append (by simp [hil]) w1 n1 (by omega) hA (by simp;omega) (by decide)
   clear hA
   have b0:=x2.get 0 (by decide)
   have b1:=x2.get 1 (by decide)
   have b2:=x2.get 2 (by decide)
   have q2:=x2.lim
   have w2:=x2.wf
   have n2:=x2.le
   have u2:=o2.lo
   rw [a0]at b0
   rw [a1]at b1
   rw [a2]at b2
   rw [q1]at q2
   have l2:0<K2.n:=by omega
   have hlen:(List.take i (List.map eAdvert adv)++List.drop (i+1) (List.map eAdvert adv))=(without (fun a=>a.id) ⟨c,d⟩ adv).map eAdvert:=by rw [←hwo];simp
   have o2':OwnI 3 K2 i2 42 4 ((without (fun a=>a.id) ⟨c,d⟩ adv).map eAdvert):=by rw [←hlen];exact o2
   have hlw:(without (fun a=>a.id) ⟨c,d⟩ adv).length=i+(adv.length-(i+1)):=by rw [←hwo];simp [Nat.min_eq_left hil]
   simp [b0,q2,w2,l2,turn]
   generalize hF:upd _ 44 _=F
   generalize hK:K2.set 0 _=K3
   have e0:K3.get 0=some (.arr 29 6 [.agg [.int .i64 me,eL false 1 cInt near,.sl i2 4 0 ((without (fun a=>a.id) ⟨c,d⟩ adv).map eAdvert).length,eL false 2 eID seen,eL false 7 eEntry ent,eL false 3 eOwn own]] (some 1)):=by
    rw [←hK];simp [w2,l2,hlw,Nat.min_eq_left hil]
   have e1:K3.get 1=some (.arr 37 2 [.agg [.int .i64 c,.int .i64 d]] (some 1)):=by
    rw [←hK];simp [w2,l2,b1]
   have e2:K3.get 2=some (.arr 29 6 [.agg [.int .i64 0,.nsl,.nsl,.nsl,.nsl,.nsl]] (some 1)):=by
    rw [←hK];simp [w2,l2,b2]
   have w3:WF K3:=by rw [←hK];exact w2.set
   have q3:K3.lim=0:=by rw [←hK];exact q2
   have n3:3≤K3.n:=by rw [←hK];exact n2
   have o3:OwnI 3 K3 i2 42 4 ((without (fun a=>a.id) ⟨c,d⟩ adv).map eAdvert):=by rw [←hK];exact o2'.setLow w2 (by decide) l2
   obtain ⟨f1,K4,k1,k2,k3,o4,x4,y4⟩:=l22 [] K3 c d false ent hel q3 n3 e1 ent 0 [] F K3 rfl (by simp) (by rw [←hF];simp) (by rw [←hF];simp) (by rw [←hF];simp) (by rw [←hF];simp) (by rw [←hF];simp) (by rw [←hF];simp) (by rw [←hF];simp;exact .nil rfl rfl) (.refl n3 w3) (.refl _ _)
   rw [k1]
   clear hF hK k1
   have c0:=x4.get 0 (by decide)
   have c2:=x4.get 2 (by decide)
   have q4:=x4.lim
   have w4:=x4.wf
   have n4:=x4.le
   rw [e0]at c0
   rw [e2]at c2
   rw [q3]at q4
   have l4:0<K4.n:=by omega
   have l42:2<K4.n:=by omega
   have s3:=o3.keep y4 x4.lim (by decide)
   simp only [List.nil_append]at o4
   have r3:=fun o o'=>((s3.toR.setLow (o:=o) w4 (by decide) l4).setLow (o:=o') w4.set (by decide) l42).resolve (n:=198) false (fun y _=>(plain_advert y).1) (by decide)
   have r4:=fun o o'=>((o4.setLow (o:=o) w4 (by decide) l4).setLow (o:=o') w4.set (by decide) l42).resolve (n:=198) false (fun y _=>(plain_entry y).1) (by decide)
   simp only [List.length_map]at c0 r3
   simp [t22k0,k2,k3,c0,c2,q4,w4,l4,l42,turn,o4.storable,o4.ecells,-res_sl_eq,r3,r4,resultsOf]
   simp [hR,forgetB,hq,hpq,Tags.none,eBroker]
  ·simp [t22,eBroker,Tags.none,e24,s24,hal,hi,idxOf,hneg,hia,eAdvert,hpq,resultsOf]
   simp [hR,forgetB,hq,hpq,Tags.none,eBroker,eAdvert]
end Go.Dm.Tc
/-
Calls that let go of rows,brought into form;closed runs.
-/
namespace Go.Dm.Tc
def consH:Option (DV×Heap)→(Heap→Option (List DV×Heap))→Option (List DV×Heap)
 | some (v,h),k=>match k h with|some (r,h')=>some (v::r,h')|none=>none
 | none,_=>none
def consL (v:DV):Option (List DV×Heap)→Option (List DV×Heap)
 | some (r,h)=>some (v::r,h)
 | none=>none
def aggH:Option (List DV×Heap)→Option (DV×Heap)
 | some (r,h)=>some (.agg r,h)
 | none=>none
theorem consL_some (v:DV) (r:List DV) (h:Heap):consL v (some (r,h))=some (v::r,h):=_root_.id rfl
theorem aggH_some (r:List DV) (h:Heap):aggH (some (r,h))=some (.agg r,h):=_root_.id rfl
theorem consH_some (v:DV) (h:Heap) (k:Heap→Option (List DV×Heap)):consH (some (v,h)) k=consL v (k h):=by
 simp only [consH];cases k h<;>rfl
theorem mapH_nil (f:Heap→DV→Option (DV×Heap)) (h:Heap):mapH f h []=some ([],h):=_root_.id rfl
theorem mapH_cons (f:Heap→DV→Option (DV×Heap)) (h:Heap) (v:DV) (r:List DV):mapH f h (v::r)=consH (f h v) (fun h1=>mapH f h1 r):=by
 simp only [mapH,consH]
 cases f h v with
 | none=>rfl
 | some p=>rfl
theorem frA_agg (h:Heap) (cs:List DV):freezeA h (.agg cs)=aggH (mapH freeze h cs):=by
 simp only [freezeA];cases mapH freeze h cs<;>rfl
theorem frA_int (h:Heap) (k:IntKind) (n:Int):freezeA h (.int k n)=some (.int k n,h):=_root_.id rfl
theorem frA_eL {α:Type} (h:Heap) (t:Bool) (sz:Nat) (e:α→DV) (xs:List α):freezeA h (eL t sz e xs)=some (eL t sz e xs,h):=by cases xs<;>rfl
theorem frA_pred (h:Heap) (p:Pred):freezeA h (ePred p)=some (ePred p,h):=frA_eL ..
theorem frA_str (h:Heap) (s:List UInt8):freezeA h (.str s)=some (.str s,h):=_root_.id rfl
theorem fr_int (h:Heap) (k:IntKind) (n:Int):freeze h (.int k n)=some (.int k n,h):=_root_.id rfl
theorem fr_bool (h:Heap) (b:Bool):freeze h (.bool b)=some (.bool b,h):=_root_.id rfl
theorem fr_nsl (h:Heap):freeze h .nsl=some (.nsl,h):=_root_.id rfl
theorem fr_eL {α:Type} (h:Heap) (t:Bool) (sz:Nat) (e:α→DV) (xs:List α):freeze h (eL t sz e xs)=some (eL t sz e xs,h):=by cases xs<;>rfl
theorem fr_pred (h:Heap) (p:Pred):freeze h (ePred p)=some (ePred p,h):=fr_eL ..
theorem fr_isl (h:Heap) (t:Bool) (sz:Nat) (xs:List DV):freeze h (.isl t sz xs)=some (.isl t sz xs,h):=_root_.id rfl
attribute [simp] consL_some aggH_some consH_some mapH_nil mapH_cons frA_agg frA_int frA_eL frA_pred frA_str fr_int fr_bool fr_nsl fr_eL fr_pred fr_isl callZ_some
theorem nn1 (n:Nat):(n=n+1)=False:=eq_false (by omega)
theorem mm1 (n:Nat):(n+1=n)=False:=eq_false (by omega)
theorem nn2 (n:Nat):(n=n+1+1)=False:=eq_false (by omega)
theorem mm2 (n:Nat):(n+1+1=n)=False:=eq_false (by omega)
theorem nn3 (n:Nat):(n=n+1+1+1)=False:=eq_false (by omega)
theorem mm3 (n:Nat):(n+1+1+1=n)=False:=eq_false (by omega)
theorem nn4 (n:Nat):(n=n+1+1+1+1)=False:=eq_false (by omega)
theorem mm4 (n:Nat):(n+1+1+1+1=n)=False:=eq_false (by omega)
theorem nn5 (n:Nat):(n=n+1+1+1+1+1)=False:=eq_false (by omega)
theorem mm5 (n:Nat):(n+1+1+1+1+1=n)=False:=eq_false (by omega)
theorem nn6 (n:Nat):(n=n+1+1+1+1+1+1)=False:=eq_false (by omega)
theorem mm6 (n:Nat):(n+1+1+1+1+1+1=n)=False:=eq_false (by omega)
theorem nn7 (n:Nat):(n=n+1+1+1+1+1+1+1)=False:=eq_false (by omega)
theorem mm7 (n:Nat):(n+1+1+1+1+1+1+1=n)=False:=eq_false (by omega)
theorem nn8 (n:Nat):(n=n+1+1+1+1+1+1+1+1)=False:=eq_false (by omega)
theorem mm8 (n:Nat):(n+1+1+1+1+1+1+1+1=n)=False:=eq_false (by omega)
theorem nn9 (n:Nat):(n=n+1+1+1+1+1+1+1+1+1)=False:=eq_false (by omega)
theorem mm9 (n:Nat):(n+1+1+1+1+1+1+1+1+1=n)=False:=eq_false (by omega)
theorem nn10 (n:Nat):(n=n+1+1+1+1+1+1+1+1+1+1)=False:=eq_false (by omega)
theorem mm10 (n:Nat):(n+1+1+1+1+1+1+1+1+1+1=n)=False:=eq_false (by omega)
theorem nn11 (n:Nat):(n=n+1+1+1+1+1+1+1+1+1+1+1)=False:=eq_false (by omega)
theorem mm11 (n:Nat):(n+1+1+1+1+1+1+1+1+1+1+1=n)=False:=eq_false (by omega)
theorem nn12 (n:Nat):(n=n+1+1+1+1+1+1+1+1+1+1+1+1)=False:=eq_false (by omega)
theorem mm12 (n:Nat):(n+1+1+1+1+1+1+1+1+1+1+1+1=n)=False:=eq_false (by omega)
attribute [simp] nn1 mm1 nn2 mm2 nn3 mm3 nn4 mm4 nn5 mm5 nn6 mm6 nn7 mm7 nn8 mm8 nn9 mm9 nn10 mm10 nn11 mm11 nn12 mm12
theorem pc_run {k n:Nat} {df:DFunc} {args ds:List DV} {d:DV} (he:∀args h,fc D k args h=callP D df h (args.mapM (resolve true h deepFuel))) (hd:args.mapM (resolve true heap0 deepFuel)=some ds) (hr:callD D n k args heap0=some (d,heap0)):pcF D df ds=some d:=by
 have h1:fc D k args heap0=some (d,heap0):=fc_some.2 ⟨n,hr⟩
 rw [he,hd,callP_some]at h1
 cases h2:pcF D df ds with
 | none=>rw [h2]at h1;cases h1
 | some x=>rw [h2,callR_some]at h1;injection h1 with h1;injection h1 with h1;rw [h1]
theorem s28:pcF D t28 []=some (.bool true):=pc_run (n:=2000) (args:=[]) e28 rfl (by kernel_rfl)
end Go.Dm.Tc
/-
Plain laws,part 1: predicates made of numbers are right;rows that rise stay so.
-/
namespace Go.Dm.Tc
theorem nameOk_names:∀nm∈namesL,nameOk nm=true∧nm.length≤1000000:=by decide
theorem texts_len:∀i:Nat,(textsL.getD i []).length≤3:=by
 intro i
 by_cases h:i<textsL.length
 ·have:∀x∈textsL,x.length≤3:=by decide
  rw [List.getD_eq_getElem?_getD,List.getElem?_eq_getElem h]
  exact this _ (List.getElem_mem h)
 ·rw [List.getD_eq_getElem?_getD,List.getElem?_eq_none (by omega)]
  simp
theorem mkCons_name (nm:List UInt8) (n:Int):(mkCons nm n).name=nm:=by unfold mkCons;split<;>rfl
theorem mkCons_right {nm:List UInt8} (h:nameOk nm=true) (n:Int):rightOne (mkCons nm n)=true:=by
 unfold mkCons
 split
 ·have b1:=within_bounds (IntKind.i64.wrap (n.tdiv 40)) (show (0:Int)≤9 by decide)
  simp only [rightOne,h,Bool.true_and,if_true]
  simp
  omega
 ·have ht:=texts_len (within (IntKind.i64.wrap (n.tdiv 4)) 0 6).toNat
  split
  ·simp only [rightOne,h,Bool.true_and]
   simp
   simp at ht
   omega
  ·simp only [rightOne,h,Bool.true_and]
   simp
   simp at ht
   omega
theorem rightA_snoc {c:Cons} (hc:rightOne c=true):∀(acc:Pred) (prev:Option (List UInt8)),rightA prev acc=true→(∀d∈acc,Go.Op.bytesLess d.name c.name=true)→(∀n,prev=some n→Go.Op.bytesLess n c.name=true)→rightA prev (acc++[c])=true
 | [],prev,_,_,hp=>by
  simp only [List.nil_append,rightA,hc,Bool.true_and,Bool.and_true]
  cases prev with
  | none=>rfl
  | some n=>exact hp n rfl
 | d::r,prev,h,hd,hp=>by
  simp only [rightA,Bool.and_eq_true]at h
  simp only [List.cons_append,rightA,Bool.and_eq_true]
  exact ⟨h.1,rightA_snoc hc r (some d.name) h.2 (fun x hx=>hd x (List.mem_cons_of_mem _ hx)) (fun n hn=>by injection hn with hn;rw [←hn];exact hd d (List.mem_cons_self ..))⟩
theorem mkPredA_right (has vals:List Int):∀(rest:List (List UInt8)) (i:Nat) (acc:Pred),(∀nm∈rest,nameOk nm=true∧nm.length≤1000000)→rest.Pairwise (fun a b=>Go.Op.bytesLess a b=true)→rightA none acc=true→acc.length≤5 →
  (∀d∈acc,d.name.length≤1000000∧∀nm∈rest,Go.Op.bytesLess d.name nm=true)→rightA none (mkPredA has vals rest i acc)=true∧(mkPredA has vals rest i acc).length≤5∧∀d∈mkPredA has vals rest i acc,d.name.length≤1000000
 | [],_,acc,_,_,h,hl,hd=>⟨h,hl,fun d hx=>(hd d hx).1⟩
 | nm::r,i,acc,hn,hp,h,hl,hd=>by
  rw [List.pairwise_cons]at hp
  simp only [mkPredA]
  split
  ·rename_i hc
   have hr:=mkCons_right (hn nm (List.mem_cons_self ..)).1 (pickI vals i)
   refine mkPredA_right has vals r (i+1) _ (fun x hx=>hn x (List.mem_cons_of_mem _ hx)) hp.2 (rightA_snoc hr acc none h (fun d hx=>by rw [mkCons_name];exact (hd d hx).2 nm (List.mem_cons_self ..)) (fun n e=>by cases e)) (by simp;omega) ?_
   intro d hx
   rcases List.mem_append.1 hx with hx|hx
   ·exact ⟨(hd d hx).1,fun y hy=>(hd d hx).2 y (List.mem_cons_of_mem _ hy)⟩
   ·simp only [List.mem_singleton]at hx
    subst hx
    rw [mkCons_name]
    exact ⟨(hn nm (List.mem_cons_self ..)).2,fun y hy=>hp.1 y hy⟩
  ·exact mkPredA_right has vals r (i+1) acc (fun x hx=>hn x (List.mem_cons_of_mem _ hx)) hp.2 h hl (fun d hx=>⟨(hd d hx).1,fun y hy=>(hd d hx).2 y (List.mem_cons_of_mem _ hy)⟩)
structure PredOk (p:Pred):Prop where
 right:rightP p=true
 names:NamesP p
 len:p.length≤5
theorem mkPred_ok (has vals:List Int):PredOk (mkPred has vals):=by
 obtain ⟨h1,h2,h3⟩:=mkPredA_right has vals namesL 0 [] nameOk_names (by decide) rfl (by simp) (by simp)
 exact ⟨by unfold rightP;rw [show rightA none (mkPred has vals)=true from h1,Bool.true_and];exact decide_eq_true h2,⟨Nat.le_trans h2 (by decide),h3⟩,h2⟩
theorem ins_rising {α:Type} (key:α→ID) (a:α) {l:List α} (h:Rising (l.map key)) (hn:∀b∈l,key b≠key a):Rising ((insAt key a l).map key):=by
 obtain ⟨r1,r2⟩:=rising_low key h (key a)
 have hp:l.Pairwise fun x y=>cmpID (key x) (key y)<0:=by unfold Rising at h;exact List.pairwise_map.1 h
 unfold Rising insAt
 rw [List.pairwise_map,List.pairwise_append,List.pairwise_cons]
 generalize hk:lowIdx (fun b=>cmpID (key b) (key a)) l=k at *
 have hlow:∀b∈l.take k,cmpID (key b) (key a)<0:=by
  intro b hb
  obtain ⟨i,hi,rfl⟩:=List.mem_iff_getElem.1 hb
  rw [List.getElem_take]
  rw [List.length_take]at hi
  exact r1 i (by omega) (by omega)
 have hhigh:∀b∈l.drop k,cmpID (key a) (key b)<0:=by
  intro b hb
  obtain ⟨i,hi,rfl⟩:=List.mem_iff_getElem.1 hb
  rw [List.length_drop]at hi
  rw [List.getElem_drop]
  have:=r2 (k+i) (by omega) (by omega)
  rcases cmpID_tri (key l[k+i]) (key a) with h1|h1|h1
  ·exact absurd h1 this
  ·exact absurd h1 (hn _ (List.getElem_mem _))
  ·exact h1
 refine ⟨hp.sublist (List.take_sublist ..),⟨fun b hb=>hhigh b hb,hp.sublist (List.drop_sublist ..)⟩,?_⟩
 intro x hx y hy
 rcases List.mem_cons.1 hy with rfl|hy
 ·exact hlow x hx
 ·exact cmpID_trans (hlow x hx) (hhigh y hy)
theorem ins_mem {α:Type} (key:α→ID) (a:α) (l:List α) (b:α):b∈insAt key a l↔b=a∨b∈l:=by
 unfold insAt
 rw [List.mem_append,List.mem_cons]
 constructor
 ·rintro (h|h|h)
  ·exact .inr (List.mem_of_mem_take h)
  ·exact .inl h
  ·exact .inr (List.mem_of_mem_drop h)
 ·rintro (h|h)
  ·exact .inr (.inl h)
  ·rw [←List.take_append_drop (lowIdx (fun b=>cmpID (key b) (key a)) l) l,List.mem_append]at h
   exact h.elim .inl fun h=>.inr (.inr h)
theorem ins_len {α:Type} (key:α→ID) (a:α) (l:List α):(insAt key a l).length=l.length+1:=by
 unfold insAt
 rw [List.length_append,List.length_cons,List.length_take,List.length_drop]
 have:=lowIdx_le (fun b=>cmpID (key b) (key a)) l
 omega
theorem without_rising {α:Type} (key:α→ID) {l:List α} (x:ID) (h:Rising (l.map key)):Rising ((without key x l).map key):=by
 unfold Rising at *
 rw [List.pairwise_map]at *
 exact h.sublist (List.filter_sublist ..)
theorem without_mem {α:Type} {key:α→ID} {x:ID} {l:List α} {a:α} (h:a∈without key x l):a∈l∧key a≠x:=by
 have:=List.mem_filter.1 h
 simpa using this
theorem without_len {α:Type} (key:α→ID) (x:ID) (l:List α):(without key x l).length≤l.length:=List.length_filter_le ..
end Go.Dm.Tc
/-
Plain laws,part 2: a broker that was told of advertisements alone;sets of IDs as maps.
-/
namespace Go.Dm.Tc
structure InvB (m0:Int) (nr:List Int) (b:Broker) (n:Nat):Prop where
 me:b.me=m0
 near:b.near=nr
 ent:b.entries=[]
 own:b.owns=[]
 ra:Rising (b.adverts.map (·.id))
 rs:Rising b.seen
 la:b.adverts.length≤n
 ls:b.seen.length≤n
 sub:∀a∈b.adverts,a.id∈b.seen
 par:∀a∈b.adverts,a.parent=-1∨a.parent∈nr
 prd:∀a∈b.adverts,PredOk a.pred
section
variable {me:Int} {near:List Int} {b:Broker} {n:Nat}
theorem InvB.start (me:Int) (near:List Int):InvB me near ⟨me,near,[],[],[],[]⟩ 0:=⟨rfl,rfl,rfl,rfl,List.Pairwise.nil,List.Pairwise.nil,Nat.le_refl _,Nat.le_refl _,fun a h=>(by cases h),fun a h=>(by cases h),fun a h=>(by cases h)⟩
theorem InvB.mono {m:Nat} (h:InvB me near b n) (hm:n≤m):InvB me near b m:={h with la:=Nat.le_trans h.la hm,ls:=Nat.le_trans h.ls hm}
theorem InvB.learn (h:InvB me near b n) (a:Advert) (hp:a.parent=-1∨a.parent∈near) (hr:PredOk a.pred):InvB me near (learnB b a).1 (n+1):=by
 unfold learnB
 split
 ·exact h.mono (Nat.le_succ n)
 ·rename_i hm
  refine ⟨h.me,h.near,h.ent,h.own,?_,?_,?_,?_,?_,?_,?_⟩
  ·exact ins_rising (fun a:Advert=>a.id) a h.ra (fun b hb e=>hm (by rw [←e];exact h.sub b hb))
  ·have:=ins_rising (fun x:ID=>x) a.id (l:=b.seen) (by simpa using h.rs) (fun b hb e=>hm (by rw [←e];exact hb))
   simpa using this
  ·simp only [ins_len];exact Nat.succ_le_succ h.la
  ·simp only [ins_len];exact Nat.succ_le_succ h.ls
  ·intro x hx
   rw [ins_mem]at hx ⊢
   rcases hx with rfl|hx
   ·exact .inl rfl
   ·exact .inr (h.sub x hx)
  ·intro x hx
   rw [ins_mem]at hx
   rcases hx with rfl|hx
   ·exact hp
   ·exact h.par x hx
  ·intro x hx
   rw [ins_mem]at hx
   rcases hx with rfl|hx
   ·exact hr
   ·exact h.prd x hx
theorem InvB.forget (h:InvB me near b n) (x:ID) (q:Int):InvB me near (forgetB b x q).1 n:=by
 unfold forgetB
 split
 ·exact h
 ·split
  ·refine ⟨h.me,h.near,?_,h.own,without_rising _ x h.ra,h.rs,Nat.le_trans (without_len ..) h.la,h.ls,fun a ha=>h.sub a (without_mem ha).1,fun a ha=>h.par a (without_mem ha).1,fun a ha=>h.prd a (without_mem ha).1⟩
   simp [h.ent,without]
  ·exact h
theorem InvB.sized (h:InvB me near b n) (hn:n≤1000) (hl:near.length≤1000):Sized b:=⟨by rw [h.near];omega,by have:=h.la;omega,by have:=h.ls;omega,by rw [h.ent];decide,by rw [h.own];decide⟩
theorem InvB.sizedP (h:InvB me near b n):SizedP b:=⟨fun a ha=>(h.prd a ha).names.1,fun a ha=>(by rw [h.ent]at ha;cases ha),fun a ha=>(by rw [h.own]at ha;cases ha)⟩
theorem InvB.sizedN (h:InvB me near b n):SizedN b:=⟨fun a ha=>(h.prd a ha).names,fun a ha=>(by rw [h.ent]at ha;cases ha),fun a ha=>(by rw [h.own]at ha;cases ha)⟩
theorem InvB.right (h:InvB me near b n) (hn:risesB (fun x y=>decide (x<y)) near=true):rightB b=true:=by
 unfold rightB rightRows
 rw [h.near,h.ent,h.own,of_rising (key:=fun a:Advert=>a.id) h.ra,show risesB (fun x y=>ltID x y) b.seen=true from of_rising (key:=fun a:ID=>a) (by simpa using h.rs),hn]
 have:(b.adverts.any fun a=>!rightAdv b a)=false:=by
  rw [List.any_eq_false]
  intro a ha
  have h1:=h.sub a ha
  have h2:=h.par a ha
  have h3:=(h.prd a ha).right
  have h4:linkB b a.parent=true:=by
   unfold linkB
   rw [h.near]
   rcases h2 with e|e
   ·simp [e]
   ·simp [e]
  simp [rightAdv,h1,h3,h4]
 rw [this]
 rfl
end
end Go.Dm.Tc
/-
What functions of the program compute,part 13: is a constraint wider than another one?
-/
namespace Go.Dm.Tc
def beginsS (s p:List UInt8):Bool:=decide (p.length≤s.length) && (s.take p.length == p)
theorem s188 (s p:List UInt8):pcF D t188 [.str s,.str p]=some (.bool (beginsS s p)):=by
 unfold pcF
 rw [goRun_eq _ _ _ _ (by simp [t188])]
 by_cases h:p.length≤s.length
 ·have hs:sliceStrV (.str s) none (some (.int .i64 (p.length:Int)))=some (.str (s.take p.length)):=by
   simp only [sliceStrV]
   rw [boundV_nat _ _ _ _ h]
   simp only [boundV_none]
   simp
  simp [t188,h,hs,beginsS]
 ·simp [t188,h,beginsS]
def holdsT (c:Cons) (s:List UInt8):Bool:=if c.kind=2 then s == c.text else if c.kind=3 then beginsS s c.text else false
def widerC (c x:Cons):Bool :=
 if x.kind=1 then decide (c.kind=1) && decide (c.lo≤x.lo) && decide (x.hi≤c.hi)
 else if x.kind=3 then decide (c.kind=3) && beginsS x.text c.text
 else if x.kind=2 then holdsT c x.text
 else false
end Go.Dm.Tc
/-
What functions of the program compute,part 14: does a predicate cover another one?
-/
namespace Go.Dm.Tc
def Unlike (p:Pred):Prop:=p.Pairwise fun a b=>a.name≠b.name
def coversP (a b:Pred):Bool:=a.all fun c=>match b.find? (fun x=>decide (x.name=c.name)) with
 | some x=>widerC c x
 | none=>false
end Go.Dm.Tc
