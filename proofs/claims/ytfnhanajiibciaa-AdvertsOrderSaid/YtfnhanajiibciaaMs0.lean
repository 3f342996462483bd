/-
What functions of the library compute, part 1: searches, comparisons.
-/
import Derived.Test.YtfnhanajiibciaaTcE
import Derived.Test.YtfnhanajiibciaaMm4
set_option linter.all false
namespace Go.Dm.Tc
def idxOf:Option Nat→Int
 | some i=>i
 | none=>-1
theorem l91 (t:Bool) (xs:List Entry) (g:Nat) (cap:List DV) (p:Entry→Bool) (hg:∀x∈xs,∀h,fc D g ([eEntry x]++cap) h=some (.bool (p x),h)) (hl:xs.length≤1000000) :
  ∀(rest:List Entry) (i:Nat) (f:FEnv) (h:Heap),xs.drop i=rest→f 0=eL t 7 eEntry xs→f 1=.func g cap→f 7=.int .i64 xs.length→f 8=.int .i64 i →
  pcOut (fin [.t 4] (run D 19 [.block 0,.seq t91k0] (.loop t91l0) f h))=some (.int .i64 (idxOf ((rest.findIdx? p).map (·+i)))):=by
 intro rest
 induction rest with
 | nil =>
  intro i f h hd h0 h1 h7 h8
  have hi:=drop_nil hd
  have:¬(i<xs.length):=by omega
  rw [run_loop_of t91l0.eq_1]
  simp [t91k0,h7,h8,this,idxOf]
 | cons e rest ih =>
  intro i f h hd h0 h1 h7 h8
  obtain ⟨hi,he,hd'⟩:=drop_at hd
  have hgx:=hg e (by rw [←he];exact List.getElem_mem hi)
  simp only [eEntry,List.cons_append,List.nil_append]at hgx
  rw [run_loop_of t91l0.eq_1]
  cases hp:p e with
  | true=>simp [h0,h1,h7,h8,hi,he,eEntry,hgx,hp,idxOf,List.findIdx?_cons]
  | false =>
   simp [h0,h1,h7,h8,hi,he,eEntry,hgx,hp]
   rw [wrap64 (by omega) (by omega)]
   refine (ih (i+1) _ h hd' ?_ ?_ ?_ ?_).trans ?_<;>simp [h0,h1,h7,List.findIdx?_cons,hp]
   congr 2
   funext q
   simp
   omega
theorem s91 (t:Bool) (xs:List Entry) (g:Nat) (cap:List DV) (p:Entry→Bool) (hg:∀x∈xs,∀h,fc D g ([eEntry x]++cap) h=some (.bool (p x),h)) (hl:xs.length≤1000000) :
  pcF D t91 [eL t 7 eEntry xs,.func g cap]=some (.int .i64 (idxOf (xs.findIdx? p))):=by
 unfold pcF
 rw [goRun_eq _ _ _ _ (by simp [t91])]
 simp [t91]
 refine (l91 t xs g cap p hg hl xs 0 _ _ rfl ?_ ?_ ?_ ?_).trans ?_<;>simp
theorem l93 (t:Bool) (xs:List Advert) (g:Nat) (cap:List DV) (p:Advert→Bool) (hg:∀x∈xs,∀h,fc D g ([eAdvert x]++cap) h=some (.bool (p x),h)) (hl:xs.length≤1000000) :
  ∀(rest:List Advert) (i:Nat) (f:FEnv) (h:Heap),xs.drop i=rest→f 0=eL t 4 eAdvert xs→f 1=.func g cap→f 7=.int .i64 xs.length→f 8=.int .i64 i →
  pcOut (fin [.t 4] (run D 19 [.block 0,.seq t93k0] (.loop t93l0) f h))=some (.int .i64 (idxOf ((rest.findIdx? p).map (·+i)))):=by
 intro rest
 induction rest with
 | nil =>
  intro i f h hd h0 h1 h7 h8
  have hi:=drop_nil hd
  have:¬(i<xs.length):=by omega
  rw [run_loop_of t93l0.eq_1]
  simp [t93k0,h7,h8,this,idxOf]
 | cons e rest ih =>
  intro i f h hd h0 h1 h7 h8
  obtain ⟨hi,he,hd'⟩:=drop_at hd
  have hgx:=hg e (by rw [←he];exact List.getElem_mem hi)
  simp only [eAdvert,List.cons_append,List.nil_append]at hgx
  rw [run_loop_of t93l0.eq_1]
  cases hp:p e with
  | true=>simp [h0,h1,h7,h8,hi,he,eAdvert,hgx,hp,idxOf,List.findIdx?_cons]
  | false =>
   simp [h0,h1,h7,h8,hi,he,eAdvert,hgx,hp]
   rw [wrap64 (by omega) (by omega)]
   refine (ih (i+1) _ h hd' ?_ ?_ ?_ ?_).trans ?_<;>simp [h0,h1,h7,List.findIdx?_cons,hp]
   congr 2
   funext q
   simp
   omega
theorem s93 (t:Bool) (xs:List Advert) (g:Nat) (cap:List DV) (p:Advert→Bool) (hg:∀x∈xs,∀h,fc D g ([eAdvert x]++cap) h=some (.bool (p x),h)) (hl:xs.length≤1000000) :
  pcF D t93 [eL t 4 eAdvert xs,.func g cap]=some (.int .i64 (idxOf (xs.findIdx? p))):=by
 unfold pcF
 rw [goRun_eq _ _ _ _ (by simp [t93])]
 simp [t93]
 refine (l93 t xs g cap p hg hl xs 0 _ _ rfl ?_ ?_ ?_ ?_).trans ?_<;>simp
theorem l96 (t:Bool) (xs:List OwnS) (g:Nat) (cap:List DV) (p:OwnS→Bool) (hg:∀x∈xs,∀h,fc D g ([eOwn x]++cap) h=some (.bool (p x),h)) (hl:xs.length≤1000000) :
  ∀(rest:List OwnS) (i:Nat) (f:FEnv) (h:Heap),xs.drop i=rest→f 0=eL t 3 eOwn xs→f 1=.func g cap→f 7=.int .i64 xs.length→f 8=.int .i64 i →
  pcOut (fin [.t 4] (run D 19 [.block 0,.seq t96k0] (.loop t96l0) f h))=some (.int .i64 (idxOf ((rest.findIdx? p).map (·+i)))):=by
 intro rest
 induction rest with
 | nil =>
  intro i f h hd h0 h1 h7 h8
  have hi:=drop_nil hd
  have:¬(i<xs.length):=by omega
  rw [run_loop_of t96l0.eq_1]
  simp [t96k0,h7,h8,this,idxOf]
 | cons e rest ih =>
  intro i f h hd h0 h1 h7 h8
  obtain ⟨hi,he,hd'⟩:=drop_at hd
  have hgx:=hg e (by rw [←he];exact List.getElem_mem hi)
  simp only [eOwn,List.cons_append,List.nil_append]at hgx
  rw [run_loop_of t96l0.eq_1]
  cases hp:p e with
  | true=>simp [h0,h1,h7,h8,hi,he,eOwn,hgx,hp,idxOf,List.findIdx?_cons]
  | false =>
   simp [h0,h1,h7,h8,hi,he,eOwn,hgx,hp]
   rw [wrap64 (by omega) (by omega)]
   refine (ih (i+1) _ h hd' ?_ ?_ ?_ ?_).trans ?_<;>simp [h0,h1,h7,List.findIdx?_cons,hp]
   congr 2
   funext q
   simp
   omega
theorem s96 (t:Bool) (xs:List OwnS) (g:Nat) (cap:List DV) (p:OwnS→Bool) (hg:∀x∈xs,∀h,fc D g ([eOwn x]++cap) h=some (.bool (p x),h)) (hl:xs.length≤1000000) :
  pcF D t96 [eL t 3 eOwn xs,.func g cap]=some (.int .i64 (idxOf (xs.findIdx? p))):=by
 unfold pcF
 rw [goRun_eq _ _ _ _ (by simp [t96])]
 simp [t96]
 refine (l96 t xs g cap p hg hl xs 0 _ _ rfl ?_ ?_ ?_ ?_).trans ?_<;>simp
theorem idxOf_ge {α:Type} (p:α→Bool) (xs:List α):decide (0≤idxOf (xs.findIdx? p))=xs.any p:=by
 cases h:xs.findIdx? p with
 | none =>
  rw [List.findIdx?_eq_none_iff]at h
  simp only [idxOf]
  have:xs.any p=false:=by rw [List.any_eq_false];exact fun x hx=>by simp [h x hx]
  rw [this];rfl
 | some i =>
  have:=List.findIdx?_eq_some_iff_getElem.1 h
  obtain ⟨hi,hp,_⟩:=this
  have:xs.any p=true:=List.any_eq_true.2 ⟨_,List.getElem_mem hi,hp⟩
  rw [this]
  simp [idxOf]
theorem s56 (t:Bool) (xs:List Entry) (g:Nat) (cap:List DV) (p:Entry→Bool) (hc:∀x∈cap,Flat 20 x) (hg:∀x∈xs,∀h,fc D g ([eEntry x]++cap) h=some (.bool (p x),h)) (hl:xs.length≤1000000) :
  pcF D t56 [eL t 7 eEntry xs,.func g cap]=some (.bool (xs.any p)):=by
 unfold pcF
 rw [goRun_eq _ _ _ _ (by simp [t56])]
 have hf:∀tg h,resolve tg h 200 (.func g cap)=some (.func g cap):=fun tg h=>flat_func (k:=20) hc tg h 200 (by decide)
 simp [t56,e91,hf,-res_func,s91 t xs g cap p hg hl]
 have:=idxOf_ge p xs
 simpa using this
theorem s52 (t:Bool) (xs:List Advert) (g:Nat) (cap:List DV) (p:Advert→Bool) (hc:∀x∈cap,Flat 20 x) (hg:∀x∈xs,∀h,fc D g ([eAdvert x]++cap) h=some (.bool (p x),h)) (hl:xs.length≤1000000) :
  pcF D t52 [eL t 4 eAdvert xs,.func g cap]=some (.bool (xs.any p)):=by
 unfold pcF
 rw [goRun_eq _ _ _ _ (by simp [t52])]
 have hf:∀tg h,resolve tg h 200 (.func g cap)=some (.func g cap):=fun tg h=>flat_func (k:=20) hc tg h 200 (by decide)
 simp [t52,e93,hf,-res_func,s93 t xs g cap p hg hl]
 have:=idxOf_ge p xs
 simpa using this
theorem s59 (t:Bool) (xs:List OwnS) (g:Nat) (cap:List DV) (p:OwnS→Bool) (hc:∀x∈cap,Flat 20 x) (hg:∀x∈xs,∀h,fc D g ([eOwn x]++cap) h=some (.bool (p x),h)) (hl:xs.length≤1000000) :
  pcF D t59 [eL t 3 eOwn xs,.func g cap]=some (.bool (xs.any p)):=by
 unfold pcF
 rw [goRun_eq _ _ _ _ (by simp [t59])]
 have hf:∀tg h,resolve tg h 200 (.func g cap)=some (.func g cap):=fun tg h=>flat_func (k:=20) hc tg h 200 (by decide)
 simp [t59,e96,hf,-res_func,s96 t xs g cap p hg hl]
 have:=idxOf_ge p xs
 simpa using this
theorem l119 (t:Bool) (xs:List Int) (v:Int) (hl:xs.length≤1000000) :
  ∀(rest:List Int) (i:Nat) (f:FEnv) (h:Heap),xs.drop i=rest→f 0=eL t 1 cInt xs→f 1=.int .i64 v→f 7=.int .i64 xs.length→f 8=.int .i64 i →
  pcOut (fin [.t 4] (run D 19 [.block 0,.seq t119k0] (.loop t119l0) f h))=some (.int .i64 (idxOf ((rest.findIdx? (v == ·)).map (·+i)))):=by
 intro rest
 induction rest with
 | nil =>
  intro i f h hd h0 h1 h7 h8
  have hi:=drop_nil hd
  have:¬(i<xs.length):=by omega
  rw [run_loop_of t119l0.eq_1]
  simp [t119k0,h7,h8,this,idxOf]
 | cons e rest ih =>
  intro i f h hd h0 h1 h7 h8
  obtain ⟨hi,he,hd'⟩:=drop_at hd
  rw [run_loop_of t119l0.eq_1]
  by_cases hp:v=e
  ·simp [h0,h1,h7,h8,hi,he,cInt,hp,idxOf,List.findIdx?_cons]
  ·simp [h0,h1,h7,h8,hi,he,cInt,hp]
   rw [wrap64 (by omega) (by omega)]
   refine (ih (i+1) _ h hd' ?_ ?_ ?_ ?_).trans ?_<;>simp [h0,h1,h7,List.findIdx?_cons,hp,cInt]
   congr 2
   funext q
   simp
   omega
theorem s119 (t:Bool) (xs:List Int) (v:Int) (hl:xs.length≤1000000) :
  pcF D t119 [eL t 1 cInt xs,.int .i64 v]=some (.int .i64 (idxOf (xs.findIdx? (v == ·)))):=by
 unfold pcF
 rw [goRun_eq _ _ _ _ (by simp [t119])]
 simp [t119]
 refine (l119 t xs v hl xs 0 _ _ rfl ?_ ?_ ?_ ?_).trans ?_<;>simp
theorem s94 (t:Bool) (xs:List Int) (v:Int) (hl:xs.length≤1000000) :
  pcF D t94 [eL t 1 cInt xs,.int .i64 v]=some (.bool (xs.contains v)):=by
 unfold pcF
 rw [goRun_eq _ _ _ _ (by simp [t94])]
 simp [t94,e119,s119 t xs v hl]
 have:=idxOf_ge (v == ·) xs
 rw [←decide_eq_true_iff (p:=0≤_),this,List.any_eq_true]
 simp
theorem l69 (t u:Bool) (xs ys:List Int) (hl:xs.length≤1000000) (hxy:xs.length=ys.length) :
  ∀(rest rest':List Int) (i:Nat) (f:FEnv) (h:Heap),xs.drop i=rest→ys.drop i=rest'→f 0=eL t 1 cInt xs→f 1=eL u 1 cInt ys→f 12=.int .i64 xs.length→f 13=.int .i64 i →
  pcOut (fin [.t 4] (run D 26 [.block 0,.seq t69k0] (.loop t69l0) f h))=some (.bool (decide (rest=rest'))):=by
 intro rest
 induction rest with
 | nil =>
  intro rest' i f h hd hd1 h0 h1 h12 h13
  have hi:=drop_nil hd
  have:¬(i<xs.length):=by omega
  have hr:rest'=[]:=by rw [←hd1];exact List.drop_eq_nil_of_le (by omega)
  subst hr
  rw [run_loop_of t69l0.eq_1]
  simp [t69k0,h12,h13,this]
 | cons e rest ih =>
  intro rest' i f h hd hd1 h0 h1 h12 h13
  obtain ⟨hi,he,hd'⟩:=drop_at hd
  cases rest' with
  | nil=>have:=drop_nil hd1;omega
  | cons e' rest' =>
   obtain ⟨hi',he',hd1'⟩:=drop_at hd1
   rw [run_loop_of t69l0.eq_1]
   by_cases hp:e=e'
   ·subst hp
    simp [h0,h1,h12,h13,hi,hi',he,he',cInt]
    rw [wrap64 (by omega) (by omega)]
    refine (ih rest' (i+1) _ h hd' hd1' ?_ ?_ ?_ ?_).trans ?_<;>simp [h0,h1,h12,cInt]
   ·have hp':=hp
    first
     | rw [ID.mk.injEq]at hp'
     | (cases e;cases e';simp only [ID.mk.injEq,Cons.mk.injEq,not_and]at hp')
     | skip
    simp [h0,h1,h12,h13,hi,hi',he,he',cInt,hp,hp',-not_and]
    try (split<;>simp_all)
theorem s69 (t u:Bool) (xs ys:List Int) (hl:xs.length≤1000000) :
  pcF D t69 [eL t 1 cInt xs,eL u 1 cInt ys]=some (.bool (decide (xs=ys))):=by
 unfold pcF
 rw [goRun_eq _ _ _ _ (by simp [t69])]
 by_cases hxy:xs.length=ys.length
 ·simp [t69,hxy]
  refine (l69 t u xs ys hl hxy xs ys 0 _ _ rfl rfl ?_ ?_ ?_ ?_).trans ?_<;>simp [hxy]
 ·have:xs≠ys:=fun h=>hxy (by rw [h])
  have h2:¬((xs.length:Int)=ys.length):=by omega
  simp [t69,h2,this]
theorem l70 (t u:Bool) (xs ys:List ID) (hl:xs.length≤1000000) (hxy:xs.length=ys.length) :
  ∀(rest rest':List ID) (i:Nat) (f:FEnv) (h:Heap),xs.drop i=rest→ys.drop i=rest'→f 0=eL t 2 eID xs→f 1=eL u 2 eID ys→f 12=.int .i64 xs.length→f 13=.int .i64 i →
  pcOut (fin [.t 4] (run D 26 [.block 0,.seq t70k0] (.loop t70l0) f h))=some (.bool (decide (rest=rest'))):=by
 intro rest
 induction rest with
 | nil =>
  intro rest' i f h hd hd1 h0 h1 h12 h13
  have hi:=drop_nil hd
  have:¬(i<xs.length):=by omega
  have hr:rest'=[]:=by rw [←hd1];exact List.drop_eq_nil_of_le (by omega)
  subst hr
  rw [run_loop_of t70l0.eq_1]
  simp [t70k0,h12,h13,this]
 | cons e rest ih =>
  intro rest' i f h hd hd1 h0 h1 h12 h13
  obtain ⟨hi,he,hd'⟩:=drop_at hd
  cases rest' with
  | nil=>have:=drop_nil hd1;omega
  | cons e' rest' =>
   obtain ⟨hi',he',hd1'⟩:=drop_at hd1
   rw [run_loop_of t70l0.eq_1]
   by_cases hp:e=e'
   ·subst hp
    simp [h0,h1,h12,h13,hi,hi',he,he',eID]
    rw [wrap64 (by omega) (by omega)]
    refine (ih rest' (i+1) _ h hd' hd1' ?_ ?_ ?_ ?_).trans ?_<;>simp [h0,h1,h12,eID]
   ·have hp':=hp
    first
     | rw [ID.mk.injEq]at hp'
     | (cases e;cases e';simp only [ID.mk.injEq,Cons.mk.injEq,not_and]at hp')
     | skip
    simp [h0,h1,h12,h13,hi,hi',he,he',eID,hp,hp',-not_and]
    try (split<;>simp_all)
theorem s70 (t u:Bool) (xs ys:List ID) (hl:xs.length≤1000000) :
  pcF D t70 [eL t 2 eID xs,eL u 2 eID ys]=some (.bool (decide (xs=ys))):=by
 unfold pcF
 rw [goRun_eq _ _ _ _ (by simp [t70])]
 by_cases hxy:xs.length=ys.length
 ·simp [t70,hxy]
  refine (l70 t u xs ys hl hxy xs ys 0 _ _ rfl rfl ?_ ?_ ?_ ?_).trans ?_<;>simp [hxy]
 ·have:xs≠ys:=fun h=>hxy (by rw [h])
  have h2:¬((xs.length:Int)=ys.length):=by omega
  simp [t70,h2,this]
theorem l104 (t u:Bool) (xs ys:List Cons) (hl:xs.length≤1000000) (hxy:xs.length=ys.length) :
  ∀(rest rest':List Cons) (i:Nat) (f:FEnv) (h:Heap),xs.drop i=rest→ys.drop i=rest'→f 0=eL t 5 eCons xs→f 1=eL u 5 eCons ys→f 12=.int .i64 xs.length→f 13=.int .i64 i →
  pcOut (fin [.t 4] (run D 26 [.block 0,.seq t104k0] (.loop t104l0) f h))=some (.bool (decide (rest=rest'))):=by
 intro rest
 induction rest with
 | nil =>
  intro rest' i f h hd hd1 h0 h1 h12 h13
  have hi:=drop_nil hd
  have:¬(i<xs.length):=by omega
  have hr:rest'=[]:=by rw [←hd1];exact List.drop_eq_nil_of_le (by omega)
  subst hr
  rw [run_loop_of t104l0.eq_1]
  simp [t104k0,h12,h13,this]
 | cons e rest ih =>
  intro rest' i f h hd hd1 h0 h1 h12 h13
  obtain ⟨hi,he,hd'⟩:=drop_at hd
  cases rest' with
  | nil=>have:=drop_nil hd1;omega
  | cons e' rest' =>
   obtain ⟨hi',he',hd1'⟩:=drop_at hd1
   rw [run_loop_of t104l0.eq_1]
   by_cases hp:e=e'
   ·subst hp
    simp [h0,h1,h12,h13,hi,hi',he,he',eCons]
    rw [wrap64 (by omega) (by omega)]
    refine (ih rest' (i+1) _ h hd' hd1' ?_ ?_ ?_ ?_).trans ?_<;>simp [h0,h1,h12,eCons]
   ·have hp':=hp
    first
     | rw [ID.mk.injEq]at hp'
     | (cases e;cases e';simp only [ID.mk.injEq,Cons.mk.injEq,not_and]at hp')
     | skip
    simp [h0,h1,h12,h13,hi,hi',he,he',eCons,hp,hp',-not_and]
    try (split<;>simp_all)
theorem s104 (t u:Bool) (xs ys:List Cons) (hl:xs.length≤1000000) :
  pcF D t104 [eL t 5 eCons xs,eL u 5 eCons ys]=some (.bool (decide (xs=ys))):=by
 unfold pcF
 rw [goRun_eq _ _ _ _ (by simp [t104])]
 by_cases hxy:xs.length=ys.length
 ·simp [t104,hxy]
  refine (l104 t u xs ys hl hxy xs ys 0 _ _ rfl rfl ?_ ?_ ?_ ?_).trans ?_<;>simp [hxy]
 ·have:xs≠ys:=fun h=>hxy (by rw [h])
  have h2:¬((xs.length:Int)=ys.length):=by omega
  simp [t104,h2,this]
end Go.Dm.Tc
/-
What functions of the library compute,part 2: comparisons by a function,rows that rise,searches by halves.
-/
namespace Go.Dm.Tc
def allB {α β:Type} (p:α→β→Bool):List α→List β→Bool
 | [],[]=>true
 | a::r,b::s=>p a b && allB p r s
 | _,_=>false
def risesB {α:Type} (p:α→α→Bool):List α→Bool
 | a::b::r=>p a b && risesB p (b::r)
 | _=>true
theorem l74 (t u:Bool) (xs ys:List Entry) (g:Nat) (p:Entry→Entry→Bool) (hg:∀x∈xs,∀y∈ys,∀h,fc D g [eEntry x,eEntry y] h=some (.bool (p x y),h)) (hl:xs.length≤1000000) (hxy:xs.length=ys.length) :
  ∀(rest rest':List Entry) (i:Nat) (f:FEnv) (h:Heap),xs.drop i=rest→ys.drop i=rest'→f 1=eL u 7 eEntry ys→f 2=.func g []→f 15=eL t 7 eEntry xs→f 16=.int .i64 xs.length→f 17=.int .i64 i→h.lim=0 →
  pcOut (fin [.t 6] (run D 32 [.block 0,.seq t74k0] (.loop t74l0) f h))=some (.bool (allB p rest rest')):=by
 intro rest
 induction rest with
 | nil =>
  intro rest' i f h hd hd1 h1 h2 h15 h16 h17 hl0
  have hi:=drop_nil hd
  have:¬(i<xs.length):=by omega
  have hr:rest'=[]:=by rw [←hd1];exact List.drop_eq_nil_of_le (by omega)
  subst hr
  rw [run_loop_of t74l0.eq_1]
  simp [t74k0,h16,h17,this,allB]
 | cons e rest ih =>
  intro rest' i f h hd hd1 h1 h2 h15 h16 h17 hl0
  obtain ⟨hi,he,hd'⟩:=drop_at hd
  cases rest' with
  | nil=>have:=drop_nil hd1;omega
  | cons e' rest' =>
   obtain ⟨hi',he',hd1'⟩:=drop_at hd1
   have hgx:=hg e (by rw [←he];exact List.getElem_mem hi) e' (by rw [←he'];exact List.getElem_mem hi')
   simp only [eEntry]at hgx
   rw [run_loop_of t74l0.eq_1]
   cases hp:p e e' with
   | true =>
    simp [h1,h2,h15,h16,h17,hi,hi',he,he',eEntry,hl0,hgx,hp]
    rw [wrap64 (by omega) (by omega)]
    refine (ih rest' (i+1) _ _ hd' hd1' ?_ ?_ ?_ ?_ ?_ ?_).trans ?_<;>simp [h1,h2,h15,h16,hl0,allB,hp]
   | false =>
    simp [h1,h2,h15,h16,h17,hi,hi',he,he',eEntry,hl0,hgx,hp,allB]
theorem s74 (t u:Bool) (xs ys:List Entry) (g:Nat) (p:Entry→Entry→Bool) (hg:∀x∈xs,∀y∈ys,∀h,fc D g [eEntry x,eEntry y] h=some (.bool (p x y),h)) (hl:xs.length≤1000000) :
  pcF D t74 [eL t 7 eEntry xs,eL u 7 eEntry ys,.func g []]=some (.bool (allB p xs ys)):=by
 unfold pcF
 rw [goRun_eq _ _ _ _ (by simp [t74])]
 by_cases hxy:xs.length=ys.length
 ·simp [t74,hxy]
  refine (l74 t u xs ys g p hg hl hxy xs ys 0 _ _ rfl rfl ?_ ?_ ?_ ?_ ?_ ?_).trans ?_<;>simp [hxy]
 ·have:allB p xs ys=false:=by
   clear hg hl
   induction xs generalizing ys with
   | nil=>cases ys with
    | nil=>simp at hxy
    | cons y ys=>rfl
   | cons x xs ih=>cases ys with
    | nil=>rfl
    | cons y ys =>
     simp only [allB]
     rw [ih ys (by simpa using hxy)];simp
  have h2:¬((xs.length:Int)=ys.length):=by omega
  simp [t74,h2,this]
theorem l71 (t u:Bool) (xs ys:List Advert) (g:Nat) (p:Advert→Advert→Bool) (hg:∀x∈xs,∀y∈ys,∀h,fc D g [eAdvert x,eAdvert y] h=some (.bool (p x y),h)) (hl:xs.length≤1000000) (hxy:xs.length=ys.length) :
  ∀(rest rest':List Advert) (i:Nat) (f:FEnv) (h:Heap),xs.drop i=rest→ys.drop i=rest'→f 1=eL u 4 eAdvert ys→f 2=.func g []→f 15=eL t 4 eAdvert xs→f 16=.int .i64 xs.length→f 17=.int .i64 i→h.lim=0 →
  pcOut (fin [.t 6] (run D 32 [.block 0,.seq t71k0] (.loop t71l0) f h))=some (.bool (allB p rest rest')):=by
 intro rest
 induction rest with
 | nil =>
  intro rest' i f h hd hd1 h1 h2 h15 h16 h17 hl0
  have hi:=drop_nil hd
  have:¬(i<xs.length):=by omega
  have hr:rest'=[]:=by rw [←hd1];exact List.drop_eq_nil_of_le (by omega)
  subst hr
  rw [run_loop_of t71l0.eq_1]
  simp [t71k0,h16,h17,this,allB]
 | cons e rest ih =>
  intro rest' i f h hd hd1 h1 h2 h15 h16 h17 hl0
  obtain ⟨hi,he,hd'⟩:=drop_at hd
  cases rest' with
  | nil=>have:=drop_nil hd1;omega
  | cons e' rest' =>
   obtain ⟨hi',he',hd1'⟩:=drop_at hd1
   have hgx:=hg e (by rw [←he];exact List.getElem_mem hi) e' (by rw [←he'];exact List.getElem_mem hi')
   simp only [eAdvert]at hgx
   rw [run_loop_of t71l0.eq_1]
   cases hp:p e e' with
   | true =>
    simp [h1,h2,h15,h16,h17,hi,hi',he,he',eAdvert,hl0,hgx,hp]
    rw [wrap64 (by omega) (by omega)]
    refine (ih rest' (i+1) _ _ hd' hd1' ?_ ?_ ?_ ?_ ?_ ?_).trans ?_<;>simp [h1,h2,h15,h16,hl0,allB,hp]
   | false =>
    simp [h1,h2,h15,h16,h17,hi,hi',he,he',eAdvert,hl0,hgx,hp,allB]
theorem s71 (t u:Bool) (xs ys:List Advert) (g:Nat) (p:Advert→Advert→Bool) (hg:∀x∈xs,∀y∈ys,∀h,fc D g [eAdvert x,eAdvert y] h=some (.bool (p x y),h)) (hl:xs.length≤1000000) :
  pcF D t71 [eL t 4 eAdvert xs,eL u 4 eAdvert ys,.func g []]=some (.bool (allB p xs ys)):=by
 unfold pcF
 rw [goRun_eq _ _ _ _ (by simp [t71])]
 by_cases hxy:xs.length=ys.length
 ·simp [t71,hxy]
  refine (l71 t u xs ys g p hg hl hxy xs ys 0 _ _ rfl rfl ?_ ?_ ?_ ?_ ?_ ?_).trans ?_<;>simp [hxy]
 ·have:allB p xs ys=false:=by
   clear hg hl
   induction xs generalizing ys with
   | nil=>cases ys with
    | nil=>simp at hxy
    | cons y ys=>rfl
   | cons x xs ih=>cases ys with
    | nil=>rfl
    | cons y ys =>
     simp only [allB]
     rw [ih ys (by simpa using hxy)];simp
  have h2:¬((xs.length:Int)=ys.length):=by omega
  simp [t71,h2,this]
theorem l76 (t u:Bool) (xs ys:List OwnS) (g:Nat) (p:OwnS→OwnS→Bool) (hg:∀x∈xs,∀y∈ys,∀h,fc D g [eOwn x,eOwn y] h=some (.bool (p x y),h)) (hl:xs.length≤1000000) (hxy:xs.length=ys.length) :
  ∀(rest rest':List OwnS) (i:Nat) (f:FEnv) (h:Heap),xs.drop i=rest→ys.drop i=rest'→f 1=eL u 3 eOwn ys→f 2=.func g []→f 15=eL t 3 eOwn xs→f 16=.int .i64 xs.length→f 17=.int .i64 i→h.lim=0 →
  pcOut (fin [.t 6] (run D 32 [.block 0,.seq t76k0] (.loop t76l0) f h))=some (.bool (allB p rest rest')):=by
 intro rest
 induction rest with
 | nil =>
  intro rest' i f h hd hd1 h1 h2 h15 h16 h17 hl0
  have hi:=drop_nil hd
  have:¬(i<xs.length):=by omega
  have hr:rest'=[]:=by rw [←hd1];exact List.drop_eq_nil_of_le (by omega)
  subst hr
  rw [run_loop_of t76l0.eq_1]
  simp [t76k0,h16,h17,this,allB]
 | cons e rest ih =>
  intro rest' i f h hd hd1 h1 h2 h15 h16 h17 hl0
  obtain ⟨hi,he,hd'⟩:=drop_at hd
  cases rest' with
  | nil=>have:=drop_nil hd1;omega
  | cons e' rest' =>
   obtain ⟨hi',he',hd1'⟩:=drop_at hd1
   have hgx:=hg e (by rw [←he];exact List.getElem_mem hi) e' (by rw [←he'];exact List.getElem_mem hi')
   simp only [eOwn]at hgx
   rw [run_loop_of t76l0.eq_1]
   cases hp:p e e' with
   | true =>
    simp [h1,h2,h15,h16,h17,hi,hi',he,he',eOwn,hl0,hgx,hp]
    rw [wrap64 (by omega) (by omega)]
    refine (ih rest' (i+1) _ _ hd' hd1' ?_ ?_ ?_ ?_ ?_ ?_).trans ?_<;>simp [h1,h2,h15,h16,hl0,allB,hp]
   | false =>
    simp [h1,h2,h15,h16,h17,hi,hi',he,he',eOwn,hl0,hgx,hp,allB]
theorem s76 (t u:Bool) (xs ys:List OwnS) (g:Nat) (p:OwnS→OwnS→Bool) (hg:∀x∈xs,∀y∈ys,∀h,fc D g [eOwn x,eOwn y] h=some (.bool (p x y),h)) (hl:xs.length≤1000000) :
  pcF D t76 [eL t 3 eOwn xs,eL u 3 eOwn ys,.func g []]=some (.bool (allB p xs ys)):=by
 unfold pcF
 rw [goRun_eq _ _ _ _ (by simp [t76])]
 by_cases hxy:xs.length=ys.length
 ·simp [t76,hxy]
  refine (l76 t u xs ys g p hg hl hxy xs ys 0 _ _ rfl rfl ?_ ?_ ?_ ?_ ?_ ?_).trans ?_<;>simp [hxy]
 ·have:allB p xs ys=false:=by
   clear hg hl
   induction xs generalizing ys with
   | nil=>cases ys with
    | nil=>simp at hxy
    | cons y ys=>rfl
   | cons x xs ih=>cases ys with
    | nil=>rfl
    | cons y ys =>
     simp only [allB]
     rw [ih ys (by simpa using hxy)];simp
  have h2:¬((xs.length:Int)=ys.length):=by omega
  simp [t76,h2,this]
theorem l42 (t:Bool) (xs:List Int) (g:Nat) (p:Int→Int→Bool) (hg:∀x∈xs,∀y∈xs,∀h,fc D g [cInt x,cInt y] h=some (.bool (p x y),h)) (hl:xs.length≤1000000) :
  ∀(rest:List Int) (a:Int) (i:Nat) (f:FEnv) (h:Heap),xs.drop i=a::rest→f 0=eL t 1 cInt xs→f 1=.func g []→f 5=.int .i64 ((i:Int)+1) →
  pcOut (fin [.t 4] (run D 24 [.block 0,.seq t42k0] (.loop t42l0) f h))=some (.bool (risesB p (a::rest))):=by
 intro rest
 induction rest with
 | nil =>
  intro a i f h hd h0 h1 h5
  obtain ⟨hi,he,hd'⟩:=drop_at hd
  have hi:=drop_nil hd'
  have:¬((i:Int)+1<xs.length):=by omega
  rw [run_loop_of t42l0.eq_1]
  simp [t42k0,h0,h5,this,risesB]
 | cons e rest ih =>
  intro a i f h hd h0 h1 h5
  obtain ⟨hi,he,hd'⟩:=drop_at hd
  obtain ⟨hi',he',hd''⟩:=drop_at hd'
  have hgx:=hg a (by rw [←he];exact List.getElem_mem hi) e (by rw [←he'];exact List.getElem_mem hi')
  simp only [cInt]at hgx
  have hlt:(i:Int)+1<xs.length:=by omega
  have hw:IntKind.i64.wrap (i:Int)=i:=wrap64 (by omega) (by omega)
  rw [run_loop_of t42l0.eq_1]
  cases hp:p a e with
  | true =>
   simp [h0,h1,h5,hi,hi',he,he',cInt,hgx,hp,hlt,hw]
   rw [wrap64 (by omega) (by omega)]
   refine (ih e (i+1) _ _ hd' ?_ ?_ ?_).trans ?_<;>simp [h0,h1,risesB,hp,cInt]
  | false =>
   simp [h0,h1,h5,hi,hi',he,he',cInt,hgx,hp,hlt,hw,risesB]
theorem s42 (t:Bool) (xs:List Int) (g:Nat) (p:Int→Int→Bool) (hg:∀x∈xs,∀y∈xs,∀h,fc D g [cInt x,cInt y] h=some (.bool (p x y),h)) (hl:xs.length≤1000000) :
  pcF D t42 [eL t 1 cInt xs,.func g []]=some (.bool (risesB p xs)):=by
 unfold pcF
 rw [goRun_eq _ _ _ _ (by simp [t42])]
 simp [t42]
 cases xs with
 | nil =>
  rw [run_loop_of t42l0.eq_1]
  simp [t42k0,risesB]
 | cons a r=>refine (l42 t (a::r) g p hg hl r a 0 _ _ rfl ?_ ?_ ?_).trans ?_<;>simp
theorem l44 (t:Bool) (xs:List ID) (g:Nat) (p:ID→ID→Bool) (hg:∀x∈xs,∀y∈xs,∀h,fc D g [eID x,eID y] h=some (.bool (p x y),h)) (hl:xs.length≤1000000) :
  ∀(rest:List ID) (a:ID) (i:Nat) (f:FEnv) (h:Heap),xs.drop i=a::rest→f 0=eL t 2 eID xs→f 1=.func g []→f 5=.int .i64 ((i:Int)+1) →
  pcOut (fin [.t 4] (run D 24 [.block 0,.seq t44k0] (.loop t44l0) f h))=some (.bool (risesB p (a::rest))):=by
 intro rest
 induction rest with
 | nil =>
  intro a i f h hd h0 h1 h5
  obtain ⟨hi,he,hd'⟩:=drop_at hd
  have hi:=drop_nil hd'
  have:¬((i:Int)+1<xs.length):=by omega
  rw [run_loop_of t44l0.eq_1]
  simp [t44k0,h0,h5,this,risesB]
 | cons e rest ih =>
  intro a i f h hd h0 h1 h5
  obtain ⟨hi,he,hd'⟩:=drop_at hd
  obtain ⟨hi',he',hd''⟩:=drop_at hd'
  have hgx:=hg a (by rw [←he];exact List.getElem_mem hi) e (by rw [←he'];exact List.getElem_mem hi')
  simp only [eID]at hgx
  have hlt:(i:Int)+1<xs.length:=by omega
  have hw:IntKind.i64.wrap (i:Int)=i:=wrap64 (by omega) (by omega)
  rw [run_loop_of t44l0.eq_1]
  cases hp:p a e with
  | true =>
   simp [h0,h1,h5,hi,hi',he,he',eID,hgx,hp,hlt,hw]
   rw [wrap64 (by omega) (by omega)]
   refine (ih e (i+1) _ _ hd' ?_ ?_ ?_).trans ?_<;>simp [h0,h1,risesB,hp,eID]
  | false =>
   simp [h0,h1,h5,hi,hi',he,he',eID,hgx,hp,hlt,hw,risesB]
theorem s44 (t:Bool) (xs:List ID) (g:Nat) (p:ID→ID→Bool) (hg:∀x∈xs,∀y∈xs,∀h,fc D g [eID x,eID y] h=some (.bool (p x y),h)) (hl:xs.length≤1000000) :
  pcF D t44 [eL t 2 eID xs,.func g []]=some (.bool (risesB p xs)):=by
 unfold pcF
 rw [goRun_eq _ _ _ _ (by simp [t44])]
 simp [t44]
 cases xs with
 | nil =>
  rw [run_loop_of t44l0.eq_1]
  simp [t44k0,risesB]
 | cons a r=>refine (l44 t (a::r) g p hg hl r a 0 _ _ rfl ?_ ?_ ?_).trans ?_<;>simp
theorem l49 (t:Bool) (xs:List Entry) (g:Nat) (p:Entry→Entry→Bool) (hg:∀x∈xs,∀y∈xs,∀h,fc D g [eEntry x,eEntry y] h=some (.bool (p x y),h)) (hl:xs.length≤1000000) :
  ∀(rest:List Entry) (a:Entry) (i:Nat) (f:FEnv) (h:Heap),xs.drop i=a::rest→f 0=eL t 7 eEntry xs→f 1=.func g []→f 5=.int .i64 ((i:Int)+1) →
  pcOut (fin [.t 4] (run D 24 [.block 0,.seq t49k0] (.loop t49l0) f h))=some (.bool (risesB p (a::rest))):=by
 intro rest
 induction rest with
 | nil =>
  intro a i f h hd h0 h1 h5
  obtain ⟨hi,he,hd'⟩:=drop_at hd
  have hi:=drop_nil hd'
  have:¬((i:Int)+1<xs.length):=by omega
  rw [run_loop_of t49l0.eq_1]
  simp [t49k0,h0,h5,this,risesB]
 | cons e rest ih =>
  intro a i f h hd h0 h1 h5
  obtain ⟨hi,he,hd'⟩:=drop_at hd
  obtain ⟨hi',he',hd''⟩:=drop_at hd'
  have hgx:=hg a (by rw [←he];exact List.getElem_mem hi) e (by rw [←he'];exact List.getElem_mem hi')
  simp only [eEntry]at hgx
  have hlt:(i:Int)+1<xs.length:=by omega
  have hw:IntKind.i64.wrap (i:Int)=i:=wrap64 (by omega) (by omega)
  rw [run_loop_of t49l0.eq_1]
  cases hp:p a e with
  | true =>
   simp [h0,h1,h5,hi,hi',he,he',eEntry,hgx,hp,hlt,hw]
   rw [wrap64 (by omega) (by omega)]
   refine (ih e (i+1) _ _ hd' ?_ ?_ ?_).trans ?_<;>simp [h0,h1,risesB,hp,eEntry]
  | false =>
   simp [h0,h1,h5,hi,hi',he,he',eEntry,hgx,hp,hlt,hw,risesB]
theorem s49 (t:Bool) (xs:List Entry) (g:Nat) (p:Entry→Entry→Bool) (hg:∀x∈xs,∀y∈xs,∀h,fc D g [eEntry x,eEntry y] h=some (.bool (p x y),h)) (hl:xs.length≤1000000) :
  pcF D t49 [eL t 7 eEntry xs,.func g []]=some (.bool (risesB p xs)):=by
 unfold pcF
 rw [goRun_eq _ _ _ _ (by simp [t49])]
 simp [t49]
 cases xs with
 | nil =>
  rw [run_loop_of t49l0.eq_1]
  simp [t49k0,risesB]
 | cons a r=>refine (l49 t (a::r) g p hg hl r a 0 _ _ rfl ?_ ?_ ?_).trans ?_<;>simp
theorem l45 (t:Bool) (xs:List Advert) (g:Nat) (p:Advert→Advert→Bool) (hg:∀x∈xs,∀y∈xs,∀h,fc D g [eAdvert x,eAdvert y] h=some (.bool (p x y),h)) (hl:xs.length≤1000000) :
  ∀(rest:List Advert) (a:Advert) (i:Nat) (f:FEnv) (h:Heap),xs.drop i=a::rest→f 0=eL t 4 eAdvert xs→f 1=.func g []→f 5=.int .i64 ((i:Int)+1) →
  pcOut (fin [.t 4] (run D 24 [.block 0,.seq t45k0] (.loop t45l0) f h))=some (.bool (risesB p (a::rest))):=by
 intro rest
 induction rest with
 | nil =>
  intro a i f h hd h0 h1 h5
  obtain ⟨hi,he,hd'⟩:=drop_at hd
  have hi:=drop_nil hd'
  have:¬((i:Int)+1<xs.length):=by omega
  rw [run_loop_of t45l0.eq_1]
  simp [t45k0,h0,h5,this,risesB]
 | cons e rest ih =>
  intro a i f h hd h0 h1 h5
  obtain ⟨hi,he,hd'⟩:=drop_at hd
  obtain ⟨hi',he',hd''⟩:=drop_at hd'
  have hgx:=hg a (by rw [←he];exact List.getElem_mem hi) e (by rw [←he'];exact List.getElem_mem hi')
  simp only [eAdvert]at hgx
  have hlt:(i:Int)+1<xs.length:=by omega
  have hw:IntKind.i64.wrap (i:Int)=i:=wrap64 (by omega) (by omega)
  rw [run_loop_of t45l0.eq_1]
  cases hp:p a e with
  | true =>
   simp [h0,h1,h5,hi,hi',he,he',eAdvert,hgx,hp,hlt,hw]
   rw [wrap64 (by omega) (by omega)]
   refine (ih e (i+1) _ _ hd' ?_ ?_ ?_).trans ?_<;>simp [h0,h1,risesB,hp,eAdvert]
  | false =>
   simp [h0,h1,h5,hi,hi',he,he',eAdvert,hgx,hp,hlt,hw,risesB]
theorem s45 (t:Bool) (xs:List Advert) (g:Nat) (p:Advert→Advert→Bool) (hg:∀x∈xs,∀y∈xs,∀h,fc D g [eAdvert x,eAdvert y] h=some (.bool (p x y),h)) (hl:xs.length≤1000000) :
  pcF D t45 [eL t 4 eAdvert xs,.func g []]=some (.bool (risesB p xs)):=by
 unfold pcF
 rw [goRun_eq _ _ _ _ (by simp [t45])]
 simp [t45]
 cases xs with
 | nil =>
  rw [run_loop_of t45l0.eq_1]
  simp [t45k0,risesB]
 | cons a r=>refine (l45 t (a::r) g p hg hl r a 0 _ _ rfl ?_ ?_ ?_).trans ?_<;>simp
theorem l47 (t:Bool) (xs:List OwnS) (g:Nat) (p:OwnS→OwnS→Bool) (hg:∀x∈xs,∀y∈xs,∀h,fc D g [eOwn x,eOwn y] h=some (.bool (p x y),h)) (hl:xs.length≤1000000) :
  ∀(rest:List OwnS) (a:OwnS) (i:Nat) (f:FEnv) (h:Heap),xs.drop i=a::rest→f 0=eL t 3 eOwn xs→f 1=.func g []→f 5=.int .i64 ((i:Int)+1) →
  pcOut (fin [.t 4] (run D 24 [.block 0,.seq t47k0] (.loop t47l0) f h))=some (.bool (risesB p (a::rest))):=by
 intro rest
 induction rest with
 | nil =>
  intro a i f h hd h0 h1 h5
  obtain ⟨hi,he,hd'⟩:=drop_at hd
  have hi:=drop_nil hd'
  have:¬((i:Int)+1<xs.length):=by omega
  rw [run_loop_of t47l0.eq_1]
  simp [t47k0,h0,h5,this,risesB]
 | cons e rest ih =>
  intro a i f h hd h0 h1 h5
  obtain ⟨hi,he,hd'⟩:=drop_at hd
  obtain ⟨hi',he',hd''⟩:=drop_at hd'
  have hgx:=hg a (by rw [←he];exact List.getElem_mem hi) e (by rw [←he'];exact List.getElem_mem hi')
  simp only [eOwn]at hgx
  have hlt:(i:Int)+1<xs.length:=by omega
  have hw:IntKind.i64.wrap (i:Int)=i:=wrap64 (by omega) (by omega)
  rw [run_loop_of t47l0.eq_1]
  cases hp:p a e with
  | true =>
   simp [h0,h1,h5,hi,hi',he,he',eOwn,hgx,hp,hlt,hw]
   rw [wrap64 (by omega) (by omega)]
   refine (ih e (i+1) _ _ hd' ?_ ?_ ?_).trans ?_<;>simp [h0,h1,risesB,hp,eOwn]
  | false =>
   simp [h0,h1,h5,hi,hi',he,he',eOwn,hgx,hp,hlt,hw,risesB]
theorem s47 (t:Bool) (xs:List OwnS) (g:Nat) (p:OwnS→OwnS→Bool) (hg:∀x∈xs,∀y∈xs,∀h,fc D g [eOwn x,eOwn y] h=some (.bool (p x y),h)) (hl:xs.length≤1000000) :
  pcF D t47 [eL t 3 eOwn xs,.func g []]=some (.bool (risesB p xs)):=by
 unfold pcF
 rw [goRun_eq _ _ _ _ (by simp [t47])]
 simp [t47]
 cases xs with
 | nil =>
  rw [run_loop_of t47l0.eq_1]
  simp [t47k0,risesB]
 | cons a r=>refine (l47 t (a::r) g p hg hl r a 0 _ _ rfl ?_ ?_ ?_).trans ?_<;>simp
end Go.Dm.Tc
/-
What functions of the library compute,part 3: the search by halves.
-/
namespace Go.Dm.Tc
def lowIdx {α:Type} (cm:α→Int) (xs:List α):Nat:=xs.findIdx fun x=>!decide (cm x<0)
def hitAt {α:Type} (cm:α→Int) (xs:List α):Bool:=match xs[lowIdx cm xs]? with|some x=>decide (cm x=0)|none=>false
theorem lowIdx_le {α:Type} (cm:α→Int) (xs:List α):lowIdx cm xs≤xs.length:=List.findIdx_le_length
theorem lowIdx_eq {α:Type} {cm:α→Int} {xs:List α} {k:Nat} (hk:k≤xs.length) (h1:∀q (hq:q<k),cm (xs[q]'(by omega))<0) (h2:∀(hq:k<xs.length),¬cm xs[k]<0):lowIdx cm xs=k:=by
 unfold lowIdx
 rcases Nat.lt_or_eq_of_le hk with hlt|rfl
 ·rw [List.findIdx_eq hlt]
  refine ⟨by simpa using h2 hlt,fun j hj=>by simpa using h1 j hj⟩
 ·rw [List.findIdx_eq_length]
  intro x hx
  obtain ⟨i,hi,rfl⟩:=List.mem_iff_getElem.1 hx
  simpa using h1 i hi
theorem l83 (t:Bool) (xs:List ID) (c s:Int) (g:Nat) (cap:List DV) (cm:ID→Int) (hg:∀x∈xs,∀h,fc D g ([eID x,.agg [.int .i64 c,.int .i64 s]]++cap) h=some (.int .i64 (cm x),h)) (hl:xs.length≤1000000)
  (hm:∀i j (hi:i<xs.length) (hj:j<xs.length),i≤j→cm xs[j]<0→cm xs[i]<0) (h:Heap) (cp:Option Nat) (hg0:h.get 0=some (.arr 35 2 [.agg [.int .i64 c,.int .i64 s]] cp)) :
  ∀(n i j:Nat) (f:FEnv),j-i=n→i≤j→j≤xs.length→f 0=eL t 2 eID xs→f 2=.func g cap→f 4=.ptr 0 2 0 0→f 8=.int .i64 xs.length→f 9=.int .i64 i→f 10=.int .i64 j →
  (∀q (hq:q<i),(hq':q<xs.length)→cm xs[q]<0)→(∀q (hq:q<xs.length),j≤q→¬cm xs[q]<0) →
  pcOut (fin [.t 6,.t 7] (run D 49 [.block 0,.seq t83k0] (.loop t83l0) f h))=some (.tup [.int .i64 (lowIdx cm xs),.bool (hitAt cm xs)]):=by
 intro n
 induction n using Nat.strongRecOn with
 | ind n ih =>
  intro i j f hn hij hj h0 h2 h4 h8 h9 h10 hlow hhigh
  rw [run_loop_of t83l0.eq_1]
  by_cases hlt:i<j
  ·have hk:(i+j) / 2<xs.length:=by omega
   have hke:xs[(i+j) / 2]?=some xs[(i+j) / 2]:=List.getElem?_eq_getElem hk
   have hgx:=hg xs[(i+j) / 2] (List.getElem_mem hk)
   simp only [eID,List.cons_append,List.nil_append]at hgx
   have w1:IntKind.i64.wrap ((i:Int)+j)=((i:Int)+j):=wrap64 (by omega) (by omega)
   have w2:IntKind.u64.wrap ((i:Int)+j)=((i:Int)+j):=wrapu64 (by omega) (by omega)
   have w3:IntKind.i64.wrap (((i+j) / 2:Nat):Int)=((i+j) / 2:Nat):=wrap64 (by omega) (by omega)
   have w4:IntKind.i64.wrap ((((i+j) / 2:Nat):Int)+1)=((((i+j) / 2:Nat):Int)+1):=wrap64 (by omega) (by omega)
   by_cases hc:cm xs[(i+j) / 2]<0
   ·simp [h0,h2,h4,h8,h9,h10,hlt,hk,hke,hg0,hgx,eID,w1,w2,w3,w4,hc,-Int.natCast_ediv]
    refine ih (j-((i+j) / 2+1)) (by omega) ((i+j) / 2+1) j _ rfl (by omega) hj ?_ ?_ ?_ ?_ ?_ ?_ ?_ hhigh<;>try simp [h0,h2,h4,h8,h10,eID]
    intro q hq hq'
    exact hm q ((i+j) / 2) hq' hk (by omega) hc
   ·simp [h0,h2,h4,h8,h9,h10,hlt,hk,hke,hg0,hgx,eID,w1,w2,w3,w4,hc,-Int.natCast_ediv]
    refine ih ((i+j) / 2-i) (by omega) i ((i+j) / 2) _ rfl (by omega) (by omega) ?_ ?_ ?_ ?_ ?_ ?_ hlow ?_<;>simp [h0,h2,h4,h8,h9,eID]
    intro q hq hq'
    exact Int.not_lt.1 fun hx=>hc (hm ((i+j) / 2) q hk hq hq' hx)
  ·have hij':i=j:=by omega
   subst hij'
   have hlo:lowIdx cm xs=i:=lowIdx_eq hj (fun q hq=>hlow q hq (by omega)) (fun hq=>hhigh i hq (Nat.le_refl i))
   by_cases hi:i<xs.length
   ·have hgx:=hg xs[i] (List.getElem_mem hi)
    simp only [eID,List.cons_append,List.nil_append]at hgx
    have hke:xs[i]?=some xs[i]:=List.getElem?_eq_getElem hi
    simp [t83k0,h0,h2,h4,h8,h9,h10,hi,hke,hg0,hgx,eID,hlo,hitAt,resultsOf]
    rfl
   ·simp [t83k0,h0,h2,h4,h8,h9,h10,hi,hlo,hitAt,resultsOf]
theorem s83 (t:Bool) (xs:List ID) (c s:Int) (g:Nat) (cap:List DV) (cm:ID→Int) (hg:∀x∈xs,∀h,fc D g ([eID x,.agg [.int .i64 c,.int .i64 s]]++cap) h=some (.int .i64 (cm x),h)) (hl:xs.length≤1000000)
  (hm:∀i j (hi:i<xs.length) (hj:j<xs.length),i≤j→cm xs[j]<0→cm xs[i]<0) :
  pcF D t83 [eL t 2 eID xs,.agg [.int .i64 c,.int .i64 s],.func g cap]=some (.tup [.int .i64 (lowIdx cm xs),.bool (hitAt cm xs)]):=by
 unfold pcF
 rw [goRun_eq _ _ _ _ (by simp [t83])]
 simp [t83]
 refine l83 t xs c s g cap cm hg hl hm _ (some 1) (by simp) xs.length 0 xs.length _ (by omega) (by omega) (by omega) ?_ ?_ ?_ ?_ ?_ ?_ ?_ ?_<;>simp
 intro q hq hq'
 omega
theorem l84 (t:Bool) (xs:List Advert) (c s:Int) (g:Nat) (cap:List DV) (cm:Advert→Int) (hg:∀x∈xs,∀h,fc D g ([eAdvert x,.agg [.int .i64 c,.int .i64 s]]++cap) h=some (.int .i64 (cm x),h)) (hl:xs.length≤1000000)
  (hm:∀i j (hi:i<xs.length) (hj:j<xs.length),i≤j→cm xs[j]<0→cm xs[i]<0) (h:Heap) (cp:Option Nat) (hg0:h.get 0=some (.arr 35 2 [.agg [.int .i64 c,.int .i64 s]] cp)) :
  ∀(n i j:Nat) (f:FEnv),j-i=n→i≤j→j≤xs.length→f 0=eL t 4 eAdvert xs→f 2=.func g cap→f 4=.ptr 0 2 0 0→f 8=.int .i64 xs.length→f 9=.int .i64 i→f 10=.int .i64 j →
  (∀q (hq:q<i),(hq':q<xs.length)→cm xs[q]<0)→(∀q (hq:q<xs.length),j≤q→¬cm xs[q]<0) →
  pcOut (fin [.t 6,.t 7] (run D 49 [.block 0,.seq t84k0] (.loop t84l0) f h))=some (.tup [.int .i64 (lowIdx cm xs),.bool (hitAt cm xs)]):=by
 intro n
 induction n using Nat.strongRecOn with
 | ind n ih =>
  intro i j f hn hij hj h0 h2 h4 h8 h9 h10 hlow hhigh
  rw [run_loop_of t84l0.eq_1]
  by_cases hlt:i<j
  ·have hk:(i+j) / 2<xs.length:=by omega
   have hke:xs[(i+j) / 2]?=some xs[(i+j) / 2]:=List.getElem?_eq_getElem hk
   have hgx:=hg xs[(i+j) / 2] (List.getElem_mem hk)
   simp only [eAdvert,List.cons_append,List.nil_append]at hgx
   have w1:IntKind.i64.wrap ((i:Int)+j)=((i:Int)+j):=wrap64 (by omega) (by omega)
   have w2:IntKind.u64.wrap ((i:Int)+j)=((i:Int)+j):=wrapu64 (by omega) (by omega)
   have w3:IntKind.i64.wrap (((i+j) / 2:Nat):Int)=((i+j) / 2:Nat):=wrap64 (by omega) (by omega)
   have w4:IntKind.i64.wrap ((((i+j) / 2:Nat):Int)+1)=((((i+j) / 2:Nat):Int)+1):=wrap64 (by omega) (by omega)
   by_cases hc:cm xs[(i+j) / 2]<0
   ·simp [h0,h2,h4,h8,h9,h10,hlt,hk,hke,hg0,hgx,eAdvert,w1,w2,w3,w4,hc,-Int.natCast_ediv]
    refine ih (j-((i+j) / 2+1)) (by omega) ((i+j) / 2+1) j _ rfl (by omega) hj ?_ ?_ ?_ ?_ ?_ ?_ ?_ hhigh<;>try simp [h0,h2,h4,h8,h10,eAdvert]
    intro q hq hq'
    exact hm q ((i+j) / 2) hq' hk (by omega) hc
   ·simp [h0,h2,h4,h8,h9,h10,hlt,hk,hke,hg0,hgx,eAdvert,w1,w2,w3,w4,hc,-Int.natCast_ediv]
    refine ih ((i+j) / 2-i) (by omega) i ((i+j) / 2) _ rfl (by omega) (by omega) ?_ ?_ ?_ ?_ ?_ ?_ hlow ?_<;>simp [h0,h2,h4,h8,h9,eAdvert]
    intro q hq hq'
    exact Int.not_lt.1 fun hx=>hc (hm ((i+j) / 2) q hk hq hq' hx)
  ·have hij':i=j:=by omega
   subst hij'
   have hlo:lowIdx cm xs=i:=lowIdx_eq hj (fun q hq=>hlow q hq (by omega)) (fun hq=>hhigh i hq (Nat.le_refl i))
   by_cases hi:i<xs.length
   ·have hgx:=hg xs[i] (List.getElem_mem hi)
    simp only [eAdvert,List.cons_append,List.nil_append]at hgx
    have hke:xs[i]?=some xs[i]:=List.getElem?_eq_getElem hi
    simp [t84k0,h0,h2,h4,h8,h9,h10,hi,hke,hg0,hgx,eAdvert,hlo,hitAt,resultsOf]
    rfl
   ·simp [t84k0,h0,h2,h4,h8,h9,h10,hi,hlo,hitAt,resultsOf]
theorem s84 (t:Bool) (xs:List Advert) (c s:Int) (g:Nat) (cap:List DV) (cm:Advert→Int) (hg:∀x∈xs,∀h,fc D g ([eAdvert x,.agg [.int .i64 c,.int .i64 s]]++cap) h=some (.int .i64 (cm x),h)) (hl:xs.length≤1000000)
  (hm:∀i j (hi:i<xs.length) (hj:j<xs.length),i≤j→cm xs[j]<0→cm xs[i]<0) :
  pcF D t84 [eL t 4 eAdvert xs,.agg [.int .i64 c,.int .i64 s],.func g cap]=some (.tup [.int .i64 (lowIdx cm xs),.bool (hitAt cm xs)]):=by
 unfold pcF
 rw [goRun_eq _ _ _ _ (by simp [t84])]
 simp [t84]
 refine l84 t xs c s g cap cm hg hl hm _ (some 1) (by simp) xs.length 0 xs.length _ (by omega) (by omega) (by omega) ?_ ?_ ?_ ?_ ?_ ?_ ?_ ?_<;>simp
 intro q hq hq'
 omega
end Go.Dm.Tc
/-
What functions of the library compute,part 4: an element put into a row of the call's own.
-/
namespace Go.Dm.Tc
theorem a33 (H:Heap) (n0:Nat) (xs:List Advert) (i:Nat) (x:Advert) (vid vety:Nat) (vcap:Option Nat) (g0:H.get n0=some (.arr 41 4 (xs.map eAdvert++[.unk]) none)) (gv:H.get vid=some (.arr vety 4 [eAdvert x] vcap)) (hi:i≤xs.length) (hl:xs.length≤1000000) (wf:WF H) (hlim:H.lim≤n0) (hne:vid≠n0) :
  ∃ H',goRun (ev D) t33 [.sl n0 4 0 xs.length,.int .i64 i,.sl vid 4 0 1] H=some (.sl n0 4 0 (xs.length+1),H')∧H'.get n0=some (.arr 41 4 ((xs.take i++x::xs.drop i).map eAdvert) none):=by
 have hlt:=get_some_lt g0
 have w1:IntKind.i64.wrap ((xs.length:Int)+1)=(xs.length:Int)+1:=wrap64 (by omega) (by omega)
 rw [goRun_eq _ _ _ _ (by simp [t33])]
 by_cases hin:i=xs.length
 ·subst hin
  simp [t33,g0,gv]
  rw [appendD_in g0 (by simp) hlim (by simp;omega) (by decide) (by simp)]
  simp [get_set wf hlt,splice]
 ·have hin':¬((i:Int)=xs.length):=by omega
  have w2:IntKind.i64.wrap ((i:Int)+1)=(i:Int)+1:=wrap64 (by omega) (by omega)
  have hi1:i+1≤xs.length+1:=by omega
  have hi2:i+1+(xs.length-i)≤xs.length+1:=by omega
  have hi3:i+(xs.length+1-i)≤xs.length+1:=by omega
  have hi4:i≤xs.length+1:=by omega
  have hx:i<(xs.map eAdvert).length:=by simp;omega
  have e1:=ins_shift (xs.map eAdvert) .unk i hx
  have e2:=ins_put (xs.map eAdvert) (eAdvert x) i hx
  have hi5:xs.length+1≤min (i+1) xs.length+(xs.length-i):=by omega
  have hi6:i+1≤min (i+1) xs.length+(xs.length-i):=by omega
  simp only [List.length_map]at e1 e2
  simp [t33,g0,gv,hin',hi,w1,w2,e1,e2,hi5,hi6,hi1,hi2,hi3,hi4,e86,overlapsHook,hne,hlim,hlt,get_set wf,get_set wf.set]
  have e3:List.take (xs.length+1-i) [eAdvert x]=[eAdvert x]:=List.take_of_length_le (by simp;omega)
  rw [e3,e2]
theorem b33 (H:Heap) (n0:Nat) (xs:List Advert) (i:Nat) (x:Advert) (vid vety:Nat) (vcap:Option Nat) (g0:H.get n0=some (.arr 41 4 (xs.map eAdvert) (some xs.length))) (gv:H.get vid=some (.arr vety 4 [eAdvert x] vcap)) (hi:i≤xs.length) (hl:xs.length≤1000000) (wf:WF H) (hlim:H.lim≤n0) (hne:vid≠n0) :
  ∃ H',goRun (ev D) t33 [.sl n0 4 0 xs.length,.int .i64 i,.sl vid 4 0 1] H=some (.sl H.n 4 0 (xs.length+1),H')∧H'.get H.n=some (.arr 41 4 ((xs.take i++x::xs.drop i).map eAdvert) none):=by
 have hlt:=get_some_lt g0
 have hvt:=get_some_lt gv
 have w1:IntKind.i64.wrap ((xs.length:Int)+1)=(xs.length:Int)+1:=wrap64 (by omega) (by omega)
 rw [goRun_eq _ _ _ _ (by simp [t33])]
 by_cases hin:i=xs.length
 ·subst hin
  simp [t33,g0,gv]
  rw [appendD_new g0 (by simp) (by simp) (by simp;omega) (by decide) (by simp)]
  simp
  rw [List.take_of_length_le (by simp)]
 ·have hin':¬((i:Int)=xs.length):=by omega
  have w2:IntKind.i64.wrap ((i:Int)+1)=(i:Int)+1:=wrap64 (by omega) (by omega)
  have w3:IntKind.i64.wrap ((xs.length:Int)+1-i)=((xs.length+1-i:Nat):Int):=by rw [wrap64 (by omega) (by omega)];omega
  have hx:i<(xs.map eAdvert).length:=by simp;omega
  have hq:(xs.length:Int)<(xs.length:Int)+1:=by omega
  have hll:H.lim≤H.n:=by omega
  have hz:((xs.length+1-i:Nat):Int)≤140737488355328:=by omega
  have e1:=fun z=>ins_new1 (xs.map eAdvert) z (eAdvert x) i hx
  have e2:=fun z=>ins_new2 (xs.map eAdvert) z (eAdvert x) i hx
  have e3:i+(xs.length+1-i)=xs.length+1:=by omega
  have e4:i+(xs.length-i+1)=xs.length+1:=by omega
  have e5:i+1≤xs.length+1:=by omega
  have e6:i+1+(xs.length-i)≤xs.length+1:=by omega
  have e7:i≤xs.length+1:=by omega
  have e8:List.take (xs.length+1-i) [eAdvert x]=[eAdvert x]:=List.take_of_length_le (by simp;omega)
  have e9:List.take (xs.length-i) (List.drop i (List.map eAdvert xs))=List.drop i (List.map eAdvert xs):=List.take_of_length_le (by simp)
  simp only [List.length_map]at e1 e2
  simp [t33,g0,gv,hin',hi,w1,w2,w3,hq,hz]
  rw [appendD_new g0 (by simp;omega) (by simp;omega) (by simp;omega) (by decide) (by simp;omega)]
  simp [g0,gv,w2,hi,hlt,hvt,hlim,hll,e3,e4,e5,e6,e7,e1,e2,e8,e9,Nat.ne_of_lt hlt,Nat.ne_of_lt hvt,Nat.min_eq_left hi]
theorem s33 (lo:Nat) (h:Heap) (v:DV) (xs:List Advert) (i:Nat) (x:Advert) (vid vety c:Nat) (ho:Own lo h v 41 4 (xs.map eAdvert)) (gv:h.get vid=some (.arr vety 4 [eAdvert x] (some c))) (hi:i≤xs.length) (hl:xs.length≤1000000) (wf:WF h) (hlo:lo≤h.n) (hlim:h.lim≤h.n) :
  ∃ v' h',fc D 33 [v,.int .i64 i,.sl vid 4 0 1] h=some (v',h')∧Own lo h' v' 41 4 ((xs.take i++x::xs.drop i).map eAdvert)∧Ext lo h h'∧Keep 41 h h':=by
 have hvt:=get_some_lt gv
 rw [e33]
 cases ho with
 | nil hv hx =>
  subst hv
  have hx0:xs=[]:=List.map_eq_nil_iff.1 hx
  subst hx0
  have hi0:i=0:=by simpa using hi
  subst hi0
  refine ⟨.sl h.n 4 0 1,h.push (.arr 41 4 [eAdvert x] none),?_,.arr h.n rfl get_push_new hlim hlo,(Ext.refl hlo wf).push,(Keep.refl _ _).push⟩
  simp only [modeRun,t33]
  rw [goRun_eq _ _ _ _ (by simp)]
  simp [gv,sliceV,appendD]
 | arr id hv hg hl1 hi1 =>
  subst hv
  have hlt:=get_some_lt hg
  have hne:vid≠id:=by intro e;subst e;rw [gv]at hg;simp at hg
  have hw:WF (h.set id .dead):=wf.set
  have gv':∀o l,({(h.set id .dead).push o with lim:=l}:Heap).get vid=some (.arr vety 4 [eAdvert x] (some c)):=fun o l=>by
   rw [get_lim,get_push,if_neg (by rw [set_n];omega),get_set wf hlt,if_neg hne];exact gv
  have g0:∀o l,({(h.set id .dead).push o with lim:=l}:Heap).get h.n=some o:=fun o l=>by
   rw [get_lim];exact get_push_new
  have hall:((xs.take i++x::xs.drop i).map eAdvert).all (below 200 h.n)=true:=by
   rw [List.all_eq_true]
   intro y hy
   obtain ⟨z,_,rfl⟩:=List.mem_map.1 hy
   exact (dep_advert z).belowN (by decide)
  have hd:List.take (xs.length+1) (List.drop 0 ((xs.take i++x::xs.drop i).map eAdvert))=(xs.take i++x::xs.drop i).map eAdvert:=by
   rw [List.drop_zero,List.take_of_length_le (by simp only [List.length_map,List.length_append,List.length_take,List.length_cons,List.length_drop];omega)]
  have sc1:scnRun (ev D) t33 [.int .i64 i,.sl vid 4 0 1] id 4 0 (xs.map eAdvert).length 41 (xs.map eAdvert) h 1 none=some ((xs.take i++x::xs.drop i).map eAdvert):=by
   obtain ⟨H',k1,k2⟩:=a33 {(h.set id .dead).push (.arr 41 4 (xs.map eAdvert++[.unk]) none) with lim:=h.n} h.n xs i x vid vety (some c) (g0 _ _) (gv' _ _) hi hl hw.push (Nat.le_refl _) (by omega)
   simp only [scnRun,List.length_map,List.replicate_one]
   rw [k1]
   have hlen:0+(xs.length+1)≤((xs.take i++x::xs.drop i).map eAdvert).length:=by simp;omega
   simp only [settle,k2,true_and,Nat.le_refl]
   rw [hd,if_pos ⟨hlen,hall⟩]
  have sc2:scnRun (ev D) t33 [.int .i64 i,.sl vid 4 0 1] id 4 0 (xs.map eAdvert).length 41 (xs.map eAdvert) h 0 (some ((xs.map eAdvert).length+0))=some ((xs.take i++x::xs.drop i).map eAdvert):=by
   obtain ⟨H',k1,k2⟩:=b33 {(h.set id .dead).push (.arr 41 4 (xs.map eAdvert) (some xs.length)) with lim:=h.n} h.n xs i x vid vety (some c) (g0 _ _) (gv' _ _) hi hl hw.push (Nat.le_refl _) (by omega)
   simp only [scnRun,List.length_map,List.replicate_zero,List.append_nil,Nat.add_zero]
   rw [k1]
   have hlen:0+(xs.length+1)≤((xs.take i++x::xs.drop i).map eAdvert).length:=by simp;omega
   have hn:h.n≤({(h.set id .dead).push (.arr 41 4 (xs.map eAdvert) (some xs.length)) with lim:=h.n}:Heap).n:=Nat.le_succ _
   simp only [settle,k2,true_and]
   rw [hd,if_pos ⟨hn,hlen,hall⟩]
  have hsame:sameL ((xs.take i++x::xs.drop i).map eAdvert) ((xs.take i++x::xs.drop i).map eAdvert)=true:=by
   simp only [sameL,nat_beq_self,Bool.true_and]
   exact all_zip_self fun y hy=>by
    obtain ⟨z,_,rfl⟩:=List.mem_map.1 hy
    exact (dep_advert z).same (by decide)
  refine ⟨.sl h.n 4 0 ((xs.take i++x::xs.drop i).map eAdvert).length,(h.set id .dead).push (.arr 41 4 ((xs.take i++x::xs.drop i).map eAdvert) none),?_,.arr h.n rfl (by exact get_push_new) hlim hlo,((Ext.refl hlo wf).set hi1 hlt).push,((Keep.refl _ _).set wf hg hlt).push⟩
  simp only [modeRun,show t33.mode=.split from rfl,hg,true_and,hl1,if_true]
  unfold splitRun
  have hk:(List.map visLen [DV.int .i64 (i:Int),DV.sl vid 4 0 1]).foldl (·+·) 0=1:=rfl
  rw [hk,sc1]
  simp only [List.range_one,List.all_cons,List.all_nil,sc2,hsame,Bool.and_self,if_true]
theorem q33 {h:Heap} {v:DV} {i vid:Nat} {A:Option (DV×Heap)} (hA:fc D 33 [v,.int .i64 (i:Int),.sl vid 4 0 1] h=A) (lo:Nat) (xs:List Advert) (x:Advert) {vety c:Nat} (ho:Own lo h v 41 4 (xs.map eAdvert)) (gv:h.get vid=some (.arr vety 4 [eAdvert x] (some c))) (hi:i≤xs.length) (hl:xs.length≤1000000) (wf:WF h) (hlo:lo≤h.n) (hlim:h.lim≤h.n) :
  ∃ v' h',A=some (v',h')∧Own lo h' v' 41 4 ((xs.take i++x::xs.drop i).map eAdvert)∧Ext lo h h'∧Keep 41 h h':=by
 subst hA
 exact s33 lo h v xs i x vid vety c ho gv hi hl wf hlo hlim
theorem a34 (H:Heap) (n0:Nat) (xs:List ID) (i:Nat) (x:ID) (vid vety:Nat) (vcap:Option Nat) (g0:H.get n0=some (.arr 35 2 (xs.map eID++[.unk]) none)) (gv:H.get vid=some (.arr vety 2 [eID x] vcap)) (hi:i≤xs.length) (hl:xs.length≤1000000) (wf:WF H) (hlim:H.lim≤n0) (hne:vid≠n0) :
  ∃ H',goRun (ev D) t34 [.sl n0 2 0 xs.length,.int .i64 i,.sl vid 2 0 1] H=some (.sl n0 2 0 (xs.length+1),H')∧H'.get n0=some (.arr 35 2 ((xs.take i++x::xs.drop i).map eID) none):=by
 have hlt:=get_some_lt g0
 have w1:IntKind.i64.wrap ((xs.length:Int)+1)=(xs.length:Int)+1:=wrap64 (by omega) (by omega)
 rw [goRun_eq _ _ _ _ (by simp [t34])]
 by_cases hin:i=xs.length
 ·subst hin
  simp [t34,g0,gv]
  rw [appendD_in g0 (by simp) hlim (by simp;omega) (by decide) (by simp)]
  simp [get_set wf hlt,splice]
 ·have hin':¬((i:Int)=xs.length):=by omega
  have w2:IntKind.i64.wrap ((i:Int)+1)=(i:Int)+1:=wrap64 (by omega) (by omega)
  have hi1:i+1≤xs.length+1:=by omega
  have hi2:i+1+(xs.length-i)≤xs.length+1:=by omega
  have hi3:i+(xs.length+1-i)≤xs.length+1:=by omega
  have hi4:i≤xs.length+1:=by omega
  have hx:i<(xs.map eID).length:=by simp;omega
  have e1:=ins_shift (xs.map eID) .unk i hx
  have e2:=ins_put (xs.map eID) (eID x) i hx
  have hi5:xs.length+1≤min (i+1) xs.length+(xs.length-i):=by omega
  have hi6:i+1≤min (i+1) xs.length+(xs.length-i):=by omega
  simp only [List.length_map]at e1 e2
  simp [t34,g0,gv,hin',hi,w1,w2,e1,e2,hi5,hi6,hi1,hi2,hi3,hi4,e88,overlapsHook,hne,hlim,hlt,get_set wf,get_set wf.set]
  have e3:List.take (xs.length+1-i) [eID x]=[eID x]:=List.take_of_length_le (by simp;omega)
  rw [e3,e2]
theorem b34 (H:Heap) (n0:Nat) (xs:List ID) (i:Nat) (x:ID) (vid vety:Nat) (vcap:Option Nat) (g0:H.get n0=some (.arr 35 2 (xs.map eID) (some xs.length))) (gv:H.get vid=some (.arr vety 2 [eID x] vcap)) (hi:i≤xs.length) (hl:xs.length≤1000000) (wf:WF H) (hlim:H.lim≤n0) (hne:vid≠n0) :
  ∃ H',goRun (ev D) t34 [.sl n0 2 0 xs.length,.int .i64 i,.sl vid 2 0 1] H=some (.sl H.n 2 0 (xs.length+1),H')∧H'.get H.n=some (.arr 35 2 ((xs.take i++x::xs.drop i).map eID) none):=by
 have hlt:=get_some_lt g0
 have hvt:=get_some_lt gv
 have w1:IntKind.i64.wrap ((xs.length:Int)+1)=(xs.length:Int)+1:=wrap64 (by omega) (by omega)
 rw [goRun_eq _ _ _ _ (by simp [t34])]
 by_cases hin:i=xs.length
 ·subst hin
  simp [t34,g0,gv]
  rw [appendD_new g0 (by simp) (by simp) (by simp;omega) (by decide) (by simp)]
  simp
  rw [List.take_of_length_le (by simp)]
 ·have hin':¬((i:Int)=xs.length):=by omega
  have w2:IntKind.i64.wrap ((i:Int)+1)=(i:Int)+1:=wrap64 (by omega) (by omega)
  have w3:IntKind.i64.wrap ((xs.length:Int)+1-i)=((xs.length+1-i:Nat):Int):=by rw [wrap64 (by omega) (by omega)];omega
  have hx:i<(xs.map eID).length:=by simp;omega
  have hq:(xs.length:Int)<(xs.length:Int)+1:=by omega
  have hll:H.lim≤H.n:=by omega
  have hz:((xs.length+1-i:Nat):Int)≤140737488355328:=by omega
  have e1:=fun z=>ins_new1 (xs.map eID) z (eID x) i hx
  have e2:=fun z=>ins_new2 (xs.map eID) z (eID x) i hx
  have e3:i+(xs.length+1-i)=xs.length+1:=by omega
  have e4:i+(xs.length-i+1)=xs.length+1:=by omega
  have e5:i+1≤xs.length+1:=by omega
  have e6:i+1+(xs.length-i)≤xs.length+1:=by omega
  have e7:i≤xs.length+1:=by omega
  have e8:List.take (xs.length+1-i) [eID x]=[eID x]:=List.take_of_length_le (by simp;omega)
  have e9:List.take (xs.length-i) (List.drop i (List.map eID xs))=List.drop i (List.map eID xs):=List.take_of_length_le (by simp)
  simp only [List.length_map]at e1 e2
  simp [t34,g0,gv,hin',hi,w1,w2,w3,hq,hz]
  rw [appendD_new g0 (by simp;omega) (by simp;omega) (by simp;omega) (by decide) (by simp;omega)]
  simp [g0,gv,w2,hi,hlt,hvt,hlim,hll,e3,e4,e5,e6,e7,e1,e2,e8,e9,Nat.ne_of_lt hlt,Nat.ne_of_lt hvt,Nat.min_eq_left hi]
theorem s34 (lo:Nat) (h:Heap) (v:DV) (xs:List ID) (i:Nat) (x:ID) (vid vety c:Nat) (ho:Own lo h v 35 2 (xs.map eID)) (gv:h.get vid=some (.arr vety 2 [eID x] (some c))) (hi:i≤xs.length) (hl:xs.length≤1000000) (wf:WF h) (hlo:lo≤h.n) (hlim:h.lim≤h.n) :
  ∃ v' h',fc D 34 [v,.int .i64 i,.sl vid 2 0 1] h=some (v',h')∧Own lo h' v' 35 2 ((xs.take i++x::xs.drop i).map eID)∧Ext lo h h'∧Keep 35 h h':=by
 have hvt:=get_some_lt gv
 rw [e34]
 cases ho with
 | nil hv hx =>
  subst hv
  have hx0:xs=[]:=List.map_eq_nil_iff.1 hx
  subst hx0
  have hi0:i=0:=by simpa using hi
  subst hi0
  refine ⟨.sl h.n 2 0 1,h.push (.arr 35 2 [eID x] none),?_,.arr h.n rfl get_push_new hlim hlo,(Ext.refl hlo wf).push,(Keep.refl _ _).push⟩
  simp only [modeRun,t34]
  rw [goRun_eq _ _ _ _ (by simp)]
  simp [gv,sliceV,appendD]
 | arr id hv hg hl1 hi1 =>
  subst hv
  have hlt:=get_some_lt hg
  have hne:vid≠id:=by intro e;subst e;rw [gv]at hg;simp at hg
  have hw:WF (h.set id .dead):=wf.set
  have gv':∀o l,({(h.set id .dead).push o with lim:=l}:Heap).get vid=some (.arr vety 2 [eID x] (some c)):=fun o l=>by
   rw [get_lim,get_push,if_neg (by rw [set_n];omega),get_set wf hlt,if_neg hne];exact gv
  have g0:∀o l,({(h.set id .dead).push o with lim:=l}:Heap).get h.n=some o:=fun o l=>by
   rw [get_lim];exact get_push_new
  have hall:((xs.take i++x::xs.drop i).map eID).all (below 200 h.n)=true:=by
   rw [List.all_eq_true]
   intro y hy
   obtain ⟨z,_,rfl⟩:=List.mem_map.1 hy
   exact (dep_id z).belowN (by decide)
  have hd:List.take (xs.length+1) (List.drop 0 ((xs.take i++x::xs.drop i).map eID))=(xs.take i++x::xs.drop i).map eID:=by
   rw [List.drop_zero,List.take_of_length_le (by simp only [List.length_map,List.length_append,List.length_take,List.length_cons,List.length_drop];omega)]
  have sc1:scnRun (ev D) t34 [.int .i64 i,.sl vid 2 0 1] id 2 0 (xs.map eID).length 35 (xs.map eID) h 1 none=some ((xs.take i++x::xs.drop i).map eID):=by
   obtain ⟨H',k1,k2⟩:=a34 {(h.set id .dead).push (.arr 35 2 (xs.map eID++[.unk]) none) with lim:=h.n} h.n xs i x vid vety (some c) (g0 _ _) (gv' _ _) hi hl hw.push (Nat.le_refl _) (by omega)
   simp only [scnRun,List.length_map,List.replicate_one]
   rw [k1]
   have hlen:0+(xs.length+1)≤((xs.take i++x::xs.drop i).map eID).length:=by simp;omega
   simp only [settle,k2,true_and,Nat.le_refl]
   rw [hd,if_pos ⟨hlen,hall⟩]
  have sc2:scnRun (ev D) t34 [.int .i64 i,.sl vid 2 0 1] id 2 0 (xs.map eID).length 35 (xs.map eID) h 0 (some ((xs.map eID).length+0))=some ((xs.take i++x::xs.drop i).map eID):=by
   obtain ⟨H',k1,k2⟩:=b34 {(h.set id .dead).push (.arr 35 2 (xs.map eID) (some xs.length)) with lim:=h.n} h.n xs i x vid vety (some c) (g0 _ _) (gv' _ _) hi hl hw.push (Nat.le_refl _) (by omega)
   simp only [scnRun,List.length_map,List.replicate_zero,List.append_nil,Nat.add_zero]
   rw [k1]
   have hlen:0+(xs.length+1)≤((xs.take i++x::xs.drop i).map eID).length:=by simp;omega
   have hn:h.n≤({(h.set id .dead).push (.arr 35 2 (xs.map eID) (some xs.length)) with lim:=h.n}:Heap).n:=Nat.le_succ _
   simp only [settle,k2,true_and]
   rw [hd,if_pos ⟨hn,hlen,hall⟩]
  have hsame:sameL ((xs.take i++x::xs.drop i).map eID) ((xs.take i++x::xs.drop i).map eID)=true:=by
   simp only [sameL,nat_beq_self,Bool.true_and]
   exact all_zip_self fun y hy=>by
    obtain ⟨z,_,rfl⟩:=List.mem_map.1 hy
    exact (dep_id z).same (by decide)
  refine ⟨.sl h.n 2 0 ((xs.take i++x::xs.drop i).map eID).length,(h.set id .dead).push (.arr 35 2 ((xs.take i++x::xs.drop i).map eID) none),?_,.arr h.n rfl (by exact get_push_new) hlim hlo,((Ext.refl hlo wf).set hi1 hlt).push,((Keep.refl _ _).set wf hg hlt).push⟩
  simp only [modeRun,show t34.mode=.split from rfl,hg,true_and,hl1,if_true]
  unfold splitRun
  have hk:(List.map visLen [DV.int .i64 (i:Int),DV.sl vid 2 0 1]).foldl (·+·) 0=1:=rfl
  rw [hk,sc1]
  simp only [List.range_one,List.all_cons,List.all_nil,sc2,hsame,Bool.and_self,if_true]
theorem q34 {h:Heap} {v:DV} {i vid:Nat} {A:Option (DV×Heap)} (hA:fc D 34 [v,.int .i64 (i:Int),.sl vid 2 0 1] h=A) (lo:Nat) (xs:List ID) (x:ID) {vety c:Nat} (ho:Own lo h v 35 2 (xs.map eID)) (gv:h.get vid=some (.arr vety 2 [eID x] (some c))) (hi:i≤xs.length) (hl:xs.length≤1000000) (wf:WF h) (hlo:lo≤h.n) (hlim:h.lim≤h.n) :
  ∃ v' h',A=some (v',h')∧Own lo h' v' 35 2 ((xs.take i++x::xs.drop i).map eID)∧Ext lo h h'∧Keep 35 h h':=by
 subst hA
 exact s34 lo h v xs i x vid vety c ho gv hi hl wf hlo hlim
end Go.Dm.Tc
/-
What functions of the statements' books compute: are two rows the same?
-/
namespace Go.Dm.Tc
theorem id_ne {x y:ID} (h:x≠y):(x.client == y.client && x.seq == y.seq)=false:=by
 obtain ⟨a,b⟩:=x
 obtain ⟨c,d⟩:=y
 simp only [ne_eq,ID.mk.injEq,not_and]at h
 by_cases h1:a=c
 ·simp [h1,h h1]
 ·simp [h1]
end Go.Dm.Tc
/-
What functions of the library compute,part 6: an element taken out of a row of the call's own;elements taken out by a function.
-/
namespace Go.Dm.Tc
def lenOf:DV→Option Nat
 | .nsl=>some 0
 | .sl _ _ _ len=>some len
 | .isl _ _ xs=>some xs.length
 | _=>none
def clearV (h:Heap) (sz:Nat) (z x:DV):Option (DV×Heap) :=
 match x with
 | .nsl=>some (.tup [],h)
 | .isl _ _ []=>some (.tup [],h)
 | .sl id sz' off len=>if len=0 then some (.tup [],h) else match copyD h sz (.sl id sz' off len) (List.replicate len z) with|some (_,h')=>some (.tup [],h')|none=>none
 | _=>none
theorem on_clear (c:Nat→List DV→Heap→Option (DV×Heap)) (h:Heap) (env:Env) (sz:Nat) (z:DV) (x:Opd):oneOp c (.clear sz z x) env h=clearV h sz z (x.eval env):=by
 simp only [oneOp,stepOp,clearV]
 cases x.eval env<;>rfl
theorem clearV_sl {h:Heap} {id ety sz off len:Nat} {xs:List DV} {cap:Option Nat} {z:DV} (hg:h.get id=some (.arr ety sz xs cap)) (hl:off+len≤xs.length) (hlim:h.lim≤id) (h0:len≠0) :
  clearV h sz z (.sl id sz off len)=some (.tup [],h.set id (.arr ety sz (splice xs (List.replicate len z) off) cap)):=by
 simp [clearV,h0,hg,hl,hlim]
end Go.Dm.Tc
/-
What functions of the library compute,part 7: elements taken out by a function.
-/
namespace Go.Dm.Tc
end Go.Dm.Tc
/-
What functions of the program compute,part 1: how advertisements are ordered and found.
-/
namespace Go.Dm.Tc
theorem s118 (a:Int):pcF D t118 [.int .i64 a]=some (.bool false):=by
 unfold pcF
 rw [goRun_eq _ _ _ _ (by simp [t118])]
 simp [t118]
def cmpI (a b:Int):Int:=if a<b then -1 else if b<a then 1 else 0
theorem s92 (a b:Int):pcF D t92 [.int .i64 a,.int .i64 b]=some (.int .i64 (cmpI a b)):=by
 unfold pcF
 rw [goRun_eq _ _ _ _ (by simp [t92])]
 by_cases h1:a<b
 ·simp [t92,e118,s118,h1,cmpI]
 ·by_cases h2:b<a
  ·simp [t92,e118,s118,h1,h2,cmpI]
  ·simp [t92,e118,s118,h1,h2,cmpI]
def orI (a b:Int):Int:=if a=0 then b else a
theorem s51 (t:Bool) (a b:Int):pcF D t51 [.isl t 1 [.int .i64 a,.int .i64 b]]=some (.int .i64 (orI a b)):=by
 unfold pcF
 rw [goRun_eq _ _ _ _ (by simp [t51])]
 simp [t51]
 rw [run_loop_of t51l0.eq_1]
 by_cases h1:a=0
 ·simp [h1,orI,indexAddrV,asI]
  rw [run_loop_of t51l0.eq_1]
  by_cases h2:b=0
  ·simp [h2,indexAddrV,asI]
   rw [run_loop_of t51l0.eq_1]
   simp [t51k0]
  ·simp [h2,indexAddrV,asI]
 ·simp [h1,orI,indexAddrV,asI]
def cmpID (a b:ID):Int:=orI (cmpI a.client b.client) (cmpI a.seq b.seq)
theorem s41 (a b c d:Int):pcF D t41 [.agg [.int .i64 a,.int .i64 b],.agg [.int .i64 c,.int .i64 d]]=some (.int .i64 (cmpID ⟨a,b⟩ ⟨c,d⟩)):=by
 unfold pcF
 rw [goRun_eq _ _ _ _ (by simp [t41])]
 simp [t41,e92,s92,e51,mkIsl,s51,cmpID]
def ltID (a b:ID):Bool:=decide (cmpID a b<0)
theorem s14 (a b c d:Int):pcF D t14 [.agg [.int .i64 a,.int .i64 b],.agg [.int .i64 c,.int .i64 d]]=some (.bool (ltID ⟨a,b⟩ ⟨c,d⟩)):=by
 unfold pcF
 rw [goRun_eq _ _ _ _ (by simp [t14])]
 simp [t14,e41,s41,ltID]
theorem s85 (a b:Int) (p:Pred) (q c d:Int):pcF D t85 [.agg [.int .i64 a,.int .i64 b,ePred p,.int .i64 q],.agg [.int .i64 c,.int .i64 d]]=some (.int .i64 (cmpID ⟨a,b⟩ ⟨c,d⟩)):=by
 unfold pcF
 rw [goRun_eq _ _ _ _ (by simp [t85])]
 simp [t85,e41,s41]
def Rising (l:List ID):Prop:=l.Pairwise fun a b=>cmpID a b<0
theorem cmpID_lt {a b:ID}:cmpID a b<0↔a.client<b.client∨a.client=b.client∧a.seq<b.seq:=by
 unfold cmpID orI cmpI
 split<;>split<;>(try split)<;>(try split)<;>omega
theorem cmpID_eq {a b:ID}:cmpID a b=0↔a=b:=by
 cases a;cases b
 simp only [ID.mk.injEq]
 unfold cmpID orI cmpI
 simp only
 split<;>split<;>(try split)<;>(try split)<;>omega
theorem cmpID_trans {a b c:ID} (h1:cmpID a b<0) (h2:cmpID b c<0):cmpID a c<0:=by
 rw [cmpID_lt]at *;omega
theorem cmpID_tri (a b:ID):cmpID a b<0∨a=b∨cmpID b a<0:=by
 rw [cmpID_lt,cmpID_lt]
 cases a;cases b
 simp only [ID.mk.injEq]
 omega
theorem mono_of_rising {α:Type} {key:α→ID} {xs:List α} (h:Rising (xs.map key)) (x:ID):∀i j (hi:i<xs.length) (hj:j<xs.length),i≤j→cmpID (key xs[j]) x<0→cmpID (key xs[i]) x<0:=by
 intro i j hi hj hij hlt
 rcases Nat.lt_or_eq_of_le hij with hl|rfl
 ·have:=List.pairwise_iff_getElem.1 h i j (by simpa using hi) (by simpa using hj) hl
  simp only [List.getElem_map]at this
  exact cmpID_trans this hlt
 ·exact hlt
theorem s31 (x0 x1 x2 x4 x5:DV) (t:Bool) (l:List ID) (c d:Int) (hr:Rising l) (hl:l.length≤1000000) :
  pcF D t31 [.agg [x0,x1,x2,eL t 2 eID l,x4,x5],.agg [.int .i64 c,.int .i64 d]]=some (.tup [.int .i64 (lowIdx (fun a=>cmpID a ⟨c,d⟩) l),.bool (hitAt (fun a=>cmpID a ⟨c,d⟩) l)]):=by
 have hb:=s83 t l c d 41 [] (fun a=>cmpID a ⟨c,d⟩) (fun x _ h=>by simp [eID,e41,s41]) hl (by
  have:=mono_of_rising (key:=fun a:ID=>a) (xs:=l) (by simpa using hr) ⟨c,d⟩
  exact this)
 unfold pcF
 rw [goRun_eq _ _ _ _ (by simp [t31])]
 simp [t31,e83,hb,resultsOf]
theorem s32 (x0 x1 x3 x4 x5:DV) (t:Bool) (l:List Advert) (c d:Int) (hr:Rising (l.map (·.id))) (hl:l.length≤1000000) :
  pcF D t32 [.agg [x0,x1,eL t 4 eAdvert l,x3,x4,x5],.agg [.int .i64 c,.int .i64 d]]=some (.tup [.int .i64 (lowIdx (fun a=>cmpID a.id ⟨c,d⟩) l),.bool (hitAt (fun a=>cmpID a.id ⟨c,d⟩) l)]):=by
 have hb:=s84 t l c d 85 [] (fun a=>cmpID a.id ⟨c,d⟩) (fun x _ h=>by simp [eAdvert,e85,s85]) hl (mono_of_rising hr ⟨c,d⟩)
 unfold pcF
 rw [goRun_eq _ _ _ _ (by simp [t32])]
 simp [t32,e84,hb,resultsOf]
end Go.Dm.Tc
/-
What functions of the program compute,part 2: a broker with rows of its own;an advertisement learned.
-/
namespace Go.Dm.Tc
theorem s30 (h:Heap) (me:Int) (t1 t2 t3 t4 t5:Bool) (near:List Int) (adv:List Advert) (seen:List ID) (ent:List Entry) (own:List OwnS)
  (l1:near.length≤1000000) (l2:adv.length≤1000000) (l3:seen.length≤1000000) (l4:ent.length≤1000000) (l5:own.length≤1000000) (wf:WF h) (hlim:h.lim≤h.n) :
  ∃ v1 v2 v3 v4 v5 h',fc D 30 [.agg [.int .i64 me,eL t1 1 cInt near,eL t2 4 eAdvert adv,eL t3 2 eID seen,eL t4 7 eEntry ent,eL t5 3 eOwn own]] h=some (.agg [.int .i64 me,v1,v2,v3,v4,v5],h') ∧
   Own h.n h' v1 3 1 (near.map cInt)∧Own h.n h' v2 41 4 (adv.map eAdvert)∧Own h.n h' v3 35 2 (seen.map eID)∧Own h.n h' v4 53 7 (ent.map eEntry)∧Own h.n h' v5 88 3 (own.map eOwn)∧Ext h.n h h':=by
 rw [e30,goRun_eq _ _ _ _ (by simp [t30])]
 have hm:max (h.n+1+1) h.lim=h.n+2:=by omega
 simp [t30,e27,hm]
 generalize hA:cloneHook _ _ _ _ _=A
 obtain ⟨v1,H1,rfl,o1,x1,y1⟩:=clone_wl (lo:=h.n+2) hA (elems_eL ..) wf.push.push (by simp) (by simp) (by simp;omega) (by simp;omega) (by decide)
 have hx0:Ext h.n h ((h.push (.arr 30 6 [.agg [.int .i64 me,eL t1 1 cInt near,eL t2 4 eAdvert adv,eL t3 2 eID seen,eL t4 7 eEntry ent,eL t5 3 eOwn own]] (some 1))).push (.arr 30 6 [.agg [.int .i64 0,.nsl,.nsl,.nsl,.nsl,.nsl]] (some 1))):=(Ext.refl (Nat.le_refl _) wf).push.push
 have z1:=hx0.trans (x1.lower (by omega:h.n≤h.n+2))
 clear hA
 simp at x1 y1 z1 o1
 generalize hK1:wl H1 _=K1 at *
 have a1:=x1.get h.n (by omega)
 have b1:=x1.get (h.n+1) (by omega)
 have q1:=x1.lim
 have w1:=x1.wf
 have n1:=x1.le
 simp at a1 b1 q1
 simp [hK1,a1,q1,hm,e80]
 generalize hA:cloneHook _ _ _ _ _=A
 obtain ⟨v2,H2,rfl,o2,x2,y2⟩:=clone_wl (lo:=h.n+2) hA (elems_eL ..) w1 n1 n1 (by omega) (by simp;omega) (by decide)
 rw [q1]at o2 x2 y2
 have z2:=z1.trans (x2.lower (by omega:h.n≤h.n+2))
 replace o1:=o1.ext y2
 clear hA
 generalize hK2:wl H2 _=K2 at *
 have a2:=x2.get h.n (by omega)
 have b2:=x2.get (h.n+1) (by omega)
 have q2:=x2.lim
 have w2:=x2.wf
 have n2:=x2.le
 rw [a1]at a2
 rw [b1]at b2
 rw [q1]at q2
 simp [hK2,a2,q1,q2,hm,e81]
 generalize hA:cloneHook _ _ _ _ _=A
 obtain ⟨v3,H3,rfl,o3,x3,y3⟩:=clone_wl (lo:=h.n+2) hA (elems_eL ..) w2 n2 n2 (by omega) (by simp;omega) (by decide)
 rw [q2]at o3 x3 y3
 have z3:=z2.trans (x3.lower (by omega:h.n≤h.n+2))
 replace o1:=o1.ext y3
 replace o2:=o2.ext y3
 clear hA
 generalize hK3:wl H3 _=K3 at *
 have a3:=x3.get h.n (by omega)
 have b3:=x3.get (h.n+1) (by omega)
 have q3:=x3.lim
 have w3:=x3.wf
 have n3:=x3.le
 rw [a2]at a3
 rw [b2]at b3
 rw [q2]at q3
 simp [hK3,a3,q2,q3,hm,e62]
 generalize hA:cloneHook _ _ _ _ _=A
 obtain ⟨v4,H4,rfl,o4,x4,y4⟩:=clone_wl (lo:=h.n+2) hA (elems_eL ..) w3 n3 n3 (by omega) (by simp;omega) (by decide)
 rw [q3]at o4 x4 y4
 have z4:=z3.trans (x4.lower (by omega:h.n≤h.n+2))
 replace o1:=o1.ext y4
 replace o2:=o2.ext y4
 replace o3:=o3.ext y4
 clear hA
 generalize hK4:wl H4 _=K4 at *
 have a4:=x4.get h.n (by omega)
 have b4:=x4.get (h.n+1) (by omega)
 have q4:=x4.lim
 have w4:=x4.wf
 have n4:=x4.le
 rw [a3]at a4
 rw [b3]at b4
 rw [q3]at q4
 simp [hK4,a4,q3,q4,hm,e82]
 generalize hA:cloneHook _ _ _ _ _=A
 obtain ⟨v5,K5,rfl,o5,x5,y5⟩:=clone_own (lo:=h.n+2) (elems_eL ..) w4 n4 (by omega) (by simp;omega) (by decide) hA
 have z5:=z4.trans (x5.lower (by omega:h.n≤h.n+2))
 replace o1:=o1.ext y5
 replace o2:=o2.ext y5
 replace o3:=o3.ext y5
 replace o4:=o4.ext y5
 clear hA
 have a5:=x5.get h.n (by omega)
 have b5:=x5.get (h.n+1) (by omega)
 have q5:=x5.lim
 have w5:=x5.wf
 have n5:=x5.le
 rw [a4]at a5
 rw [b4]at b5
 rw [q4]at q5
 have c5:h.n<K5.n:=by omega
 have d5:h.n+1<K5.n:=by omega
 have f5:h.lim≤h.n+1:=by omega
 simp [a5,b5,q5,w5,c5,d5,f5,hlim,o1.storable,o2.storable,o3.storable,o4.storable,o5.storable,o1.ecells,o2.ecells,o3.ecells,o4.ecells,o5.ecells,turn]
 refine ⟨v1,v2,v3,v4,v5,_,⟨⟨rfl,rfl,rfl,rfl,rfl⟩,rfl⟩,?_,?_,?_,?_,?_,?_⟩
 ·exact ((o1.setLow w5 (by omega) c5).setLow w5.set (by omega) d5).lower (by omega)
 ·exact ((o2.setLow w5 (by omega) c5).setLow w5.set (by omega) d5).lower (by omega)
 ·exact ((o3.setLow w5 (by omega) c5).setLow w5.set (by omega) d5).lower (by omega)
 ·exact ((o4.setLow w5 (by omega) c5).setLow w5.set (by omega) d5).lower (by omega)
 ·exact ((o5.setLow w5 (by omega) c5).setLow w5.set (by omega) d5).lower (by omega)
 ·exact (z5.set (by omega) c5).set (by omega) d5
end Go.Dm.Tc
/-
What functions of the program compute,part 3: an advertisement learned,found.
-/
namespace Go.Dm.Tc
section
variable {α:Type} (key:α→ID)
def insAt (a:α) (l:List α):List α:=l.take (lowIdx (fun b=>cmpID (key b) (key a)) l)++a::l.drop (lowIdx (fun b=>cmpID (key b) (key a)) l)
theorem rising_low {l:List α} (h:Rising (l.map key)) (x:ID):(∀i (hi:i<l.length),i<lowIdx (fun b=>cmpID (key b) x) l→cmpID (key l[i]) x<0)∧(∀i (hi:i<l.length),lowIdx (fun b=>cmpID (key b) x) l≤i→¬cmpID (key l[i]) x<0):=by
 constructor
 ·intro i hi hlt
  have:=List.not_of_lt_findIdx (p:=fun b=>!decide (cmpID (key b) x<0)) hlt
  simpa using this
 ·intro i hi hle hc
  have hk:lowIdx (fun b=>cmpID (key b) x) l<l.length:=Nat.lt_of_le_of_lt hle hi
  have h1:¬cmpID (key l[lowIdx (fun b=>cmpID (key b) x) l]) x<0:=by
   have:=List.findIdx_getElem (p:=fun b=>!decide (cmpID (key b) x<0)) (w:=hk)
   unfold lowIdx
   simpa using this
  exact h1 (mono_of_rising h x _ _ hk hi hle hc)
theorem hit_find {l:List α} (h:Rising (l.map key)) (x:ID):match l.find? (fun b=>key b=x) with
  | some a=>hitAt (fun b=>cmpID (key b) x) l=true∧l[lowIdx (fun b=>cmpID (key b) x) l]?=some a
  | none=>hitAt (fun b=>cmpID (key b) x) l=false:=by
 obtain ⟨r1,r2⟩:=rising_low key h x
 have hone:∀i j (hi:i<l.length) (hj:j<l.length),key l[i]=x→key l[j]=x→i=j:=by
  intro i j hi hj e1 e2
  rcases Nat.lt_trichotomy i j with hlt|he|hlt
  ·have:=List.pairwise_iff_getElem.1 h i j (by simpa using hi) (by simpa using hj) hlt
   simp only [List.getElem_map,e1,e2]at this
   rw [cmpID_lt]at this;omega
  ·exact he
  ·have:=List.pairwise_iff_getElem.1 h j i (by simpa using hj) (by simpa using hi) hlt
   simp only [List.getElem_map,e1,e2]at this
   rw [cmpID_lt]at this;omega
 cases hf:l.find? (fun b=>key b=x) with
 | some a =>
  have hax:key a=x:=by simpa using List.find?_some hf
  obtain ⟨i,hi,hia⟩:=List.mem_iff_getElem.1 (List.mem_of_find?_eq_some hf)
  have hk:lowIdx (fun b=>cmpID (key b) x) l=i:=by
   refine lowIdx_eq (Nat.le_of_lt hi) (fun q hq=>?_) (fun hq=>?_)
   ·have:=List.pairwise_iff_getElem.1 h q i (by simp;omega) (by simpa using hi) hq
    simp only [List.getElem_map,hia,hax]at this
    exact this
   ·rw [hia,hax,cmpID_lt];omega
  have hge:l[lowIdx (fun b=>cmpID (key b) x) l]?=some a:=by rw [hk,List.getElem?_eq_getElem hi,hia]
  refine ⟨?_,hge⟩
  unfold hitAt
  rw [hge]
  simp only [hax]
  simp [cmpID_eq]
 | none =>
  unfold hitAt
  cases hg:l[lowIdx (fun b=>cmpID (key b) x) l]? with
  | none=>rfl
  | some a =>
   have:key a≠x:=by
    have:=List.find?_eq_none.1 hf a (List.mem_of_getElem? hg)
    simpa using this
   simp only [decide_eq_false_iff_not]
   rw [cmpID_eq];exact this
end
theorem hit_mem {l:List ID} (hr:Rising l) (x:ID):hitAt (fun b=>cmpID b x) l=decide (x∈l):=by
 have hf:=hit_find (fun a:ID=>a) (by simpa using hr) x
 cases hq:l.find? (fun a=>a=x) with
 | none =>
  rw [hq]at hf
  simp only at hf
  rw [hf]
  have:=List.find?_eq_none.1 hq
  symm
  simp only [decide_eq_false_iff_not]
  intro hm
  exact this x hm (by simp)
 | some a =>
  rw [hq]at hf
  rw [hf.1]
  have h1:a=x:=by simpa using List.find?_some hq
  have h2:=List.mem_of_find?_eq_some hq
  rw [h1]at h2
  simp [h2]
def advOf (b:Broker) (x:ID):Option Advert:=b.adverts.find? fun a=>a.id=x
def advZero:Advert:=⟨⟨0,0⟩,[],0⟩
def hasO {α:Type}:Option α→Bool|some _=>true|none=>false
theorem s12 (x0 x1 x3 x4 x5:DV) (t:Bool) (l:List Advert) (c d:Int) (hr:Rising (l.map (·.id))) (hl:l.length≤1000000) (f0:Flat 20 x0) (f1:Flat 20 x1) (f3:Flat 20 x3) (f4:Flat 20 x4) (f5:Flat 20 x5) :
  pcF D t12 [.agg [x0,x1,eL t 4 eAdvert l,x3,x4,x5],.agg [.int .i64 c,.int .i64 d]]=some (.tup [eAdvert ((l.find? fun a=>a.id=⟨c,d⟩).getD advZero),.bool (hasO (l.find? fun a=>a.id=⟨c,d⟩))]):=by
 have hf:=hit_find (fun a:Advert=>a.id) hr ⟨c,d⟩
 unfold pcF
 rw [goRun_eq _ _ _ _ (by simp [t12])]
 have g0:∀h,resolve true h 199 x0=some x0:=fun h=>f0 _ _ _ (by decide)
 have g1:∀h,resolve true h 199 x1=some x1:=fun h=>f1 _ _ _ (by decide)
 have g3:∀h,resolve true h 199 x3=some x3:=fun h=>f3 _ _ _ (by decide)
 have g4:∀h,resolve true h 199 x4=some x4:=fun h=>f4 _ _ _ (by decide)
 have g5:∀h,resolve true h 199 x5=some x5:=fun h=>f5 _ _ _ (by decide)
 cases hq:l.find? (fun a=>a.id=⟨c,d⟩) with
 | none =>
  rw [hq]at hf
  simp at hf
  simp [t12,e32,s32,g0,g1,g3,g4,g5,hr,hl,hf,hq,eAdvert,advZero,hasO,resultsOf]
  rfl
 | some a =>
  rw [hq]at hf
  simp at hf
  simp [t12,e32,s32,g0,g1,g3,g4,g5,hr,hl,hf.1,hf.2,hq,eAdvert,hasO,resultsOf]
theorem s11 (x0 x1 x2 x4 x5:DV) (t:Bool) (l:List ID) (c d:Int) (hr:Rising l) (hl:l.length≤1000000) (f0:Flat 20 x0) (f1:Flat 20 x1) (f2:Flat 20 x2) (f4:Flat 20 x4) (f5:Flat 20 x5) :
  pcF D t11 [.agg [x0,x1,x2,eL t 2 eID l,x4,x5],.agg [.int .i64 c,.int .i64 d]]=some (.bool (decide (⟨c,d⟩∈l))):=by
 have hh:=hit_mem hr ⟨c,d⟩
 unfold pcF
 rw [goRun_eq _ _ _ _ (by simp [t11])]
 have g0:∀h,resolve true h 199 x0=some x0:=fun h=>f0 _ _ _ (by decide)
 have g1:∀h,resolve true h 199 x1=some x1:=fun h=>f1 _ _ _ (by decide)
 have g2:∀h,resolve true h 199 x2=some x2:=fun h=>f2 _ _ _ (by decide)
 have g4:∀h,resolve true h 199 x4=some x4:=fun h=>f4 _ _ _ (by decide)
 have g5:∀h,resolve true h 199 x5=some x5:=fun h=>f5 _ _ _ (by decide)
 simp [t11,e31,s31,g0,g1,g2,g4,g5,hr,hl,hh]
structure Sized (b:Broker):Prop where
 near:b.near.length≤100000
 adv:b.adverts.length≤100000
 seen:b.seen.length≤100000
 ent:b.entries.length≤100000
 own:b.owns.length≤100000
def learnB (b:Broker) (a:Advert):Broker×Bool :=
 if a.id∈b.seen then (b,false) else ({b with adverts:=insAt (fun a=>a.id) a b.adverts,seen:=insAt (fun x=>x) a.id b.seen},true)
theorem q30 {h:Heap} {A:Option (DV×Heap)} {me:Int} {t1 t2 t3 t4 t5:Bool} {near:List Int} {adv:List Advert} {seen:List ID} {ent:List Entry} {own:List OwnS} (hA:fc D 30 [.agg [.int .i64 me,eL t1 1 cInt near,eL t2 4 eAdvert adv,eL t3 2 eID seen,eL t4 7 eEntry ent,eL t5 3 eOwn own]] h=A)
  (hs:Sized ⟨me,near,adv,seen,ent,own⟩) (wf:WF h) (hlim:h.lim≤h.n) :
  ∃ v1 v2 v3 v4 v5 h',A=some (.agg [.int .i64 me,v1,v2,v3,v4,v5],h') ∧
   Own h.n h' v1 3 1 (near.map cInt)∧Own h.n h' v2 41 4 (adv.map eAdvert)∧Own h.n h' v3 35 2 (seen.map eID)∧Own h.n h' v4 53 7 (ent.map eEntry)∧Own h.n h' v5 88 3 (own.map eOwn)∧Ext h.n h h':=by
 subst hA
 obtain ⟨z1,z2,z3,z4,z5⟩:=hs
 simp only at z1 z2 z3 z4 z5
 exact s30 h me t1 t2 t3 t4 t5 near adv seen ent own (by omega) (by omega) (by omega) (by omega) (by omega) wf hlim
theorem s9 (t:Tags) (b:Broker) (c d:Int) (p:Pred) (q:Int) (hs:Sized b) (ra:Rising (b.adverts.map (·.id))) (rs:Rising b.seen) :
  pcF D t9 [eBroker t b,.agg [.int .i64 c,.int .i64 d,ePred p,.int .i64 q]]=some (.tup [eBroker .none (learnB b ⟨⟨c,d⟩,p,q⟩).1,.bool (learnB b ⟨⟨c,d⟩,p,q⟩).2]):=by
 obtain ⟨me,near,adv,seen,ent,own⟩:=b
 unfold pcF
 rw [goRun_eq _ _ _ _ (by simp [t9])]
 simp [t9,eBroker]
 generalize hA:fc D _ _ _=A
 obtain ⟨v1,v2,v3,v4,v5,K,rfl,o1,o2,o3,o4,o5,x⟩:=q30 hA hs (by simp) (by simp)
 simp at o1 o2 o3 o4 o5 x
 clear hA
 have a0:=x.get 0 (by decide)
 have a1:=x.get 1 (by decide)
 have a2:=x.get 2 (by decide)
 have q0:=x.lim
 have w0:=x.wf
 have n0:=x.le
 simp at a0 a1 a2 q0
 have l0:0<K.n:=by omega
 have l2:2<K.n:=by omega
 have r1:∀o,resolve true (K.set 0 o) 199 v1=some (eL true 1 cInt near):=fun o=>(o1.setLow w0 (by decide) l0).resolve true (fun y _=>(plain_cint y).1) (by decide)
 have r2:∀o,resolve true (K.set 0 o) 199 v2=some (eL true 4 eAdvert adv):=fun o=>(o2.setLow w0 (by decide) l0).resolve true (fun y _=>(plain_advert y).1) (by decide)
 have r3:∀o,resolve true (K.set 0 o) 199 v3=some (eL true 2 eID seen):=fun o=>(o3.setLow w0 (by decide) l0).resolve true (fun y _=>(plain_id y).1) (by decide)
 have r4:∀o,resolve true (K.set 0 o) 199 v4=some (eL true 7 eEntry ent):=fun o=>(o4.setLow w0 (by decide) l0).resolve true (fun y _=>(plain_entry y).1) (by decide)
 have r5:∀o,resolve true (K.set 0 o) 199 v5=some (eL true 3 eOwn own):=fun o=>(o5.setLow w0 (by decide) l0).resolve true (fun y _=>(plain_own y).1) (by decide)
 have hsl:seen.length≤1000000:=by have:=hs.seen;simp only at this;omega
 have hal:adv.length≤1000000:=by have:=hs.adv;simp only at this;omega
 simp only at ra rs
 have hh:=hit_mem rs ⟨c,d⟩
 obtain ⟨R,hR⟩:∃ R,R=DV.tup [eBroker .none (learnB ⟨me,near,adv,seen,ent,own⟩ ⟨⟨c,d⟩,p,q⟩).1,.bool (learnB ⟨me,near,adv,seen,ent,own⟩ ⟨⟨c,d⟩,p,q⟩).2]:=⟨_,rfl⟩
 simp only [eBroker]at hR
 rw [←hR]
 by_cases hm:(⟨c,d⟩:ID)∈seen
 ·have r1':∀o o',resolve false ((K.set 0 o).set 2 o') 198 v1=some (eL false 1 cInt near):=fun o o'=>((o1.setLow w0 (by decide) l0).setLow w0.set (by decide) l2).resolve false (fun y _=>(plain_cint y).1) (by decide)
  have r2':∀o o',resolve false ((K.set 0 o).set 2 o') 198 v2=some (eL false 4 eAdvert adv):=fun o o'=>((o2.setLow w0 (by decide) l0).setLow w0.set (by decide) l2).resolve false (fun y _=>(plain_advert y).1) (by decide)
  have r3':∀o o',resolve false ((K.set 0 o).set 2 o') 198 v3=some (eL false 2 eID seen):=fun o o'=>((o3.setLow w0 (by decide) l0).setLow w0.set (by decide) l2).resolve false (fun y _=>(plain_id y).1) (by decide)
  have r4':∀o o',resolve false ((K.set 0 o).set 2 o') 198 v4=some (eL false 7 eEntry ent):=fun o o'=>((o4.setLow w0 (by decide) l0).setLow w0.set (by decide) l2).resolve false (fun y _=>(plain_entry y).1) (by decide)
  have r5':∀o o',resolve false ((K.set 0 o).set 2 o') 198 v5=some (eL false 3 eOwn own):=fun o o'=>((o5.setLow w0 (by decide) l0).setLow w0.set (by decide) l2).resolve false (fun y _=>(plain_own y).1) (by decide)
  simp [a0,a1,a2,q0,w0,l0,l2,e31,s31,r1,r2,r3,r4,r5,r1',r2',r3',r4',r5',rs,hsl,hh,hm,resultsOf]
  simp [hR,learnB,hm,Tags.none]
 ·simp [a0,a1,a2,q0,w0,l0,l2,e31,s31,e32,s32,r1,r2,r3,r4,r5,rs,ra,hsl,hal,hh,hm]
  generalize hA:fc D _ _ _=A
  obtain ⟨v2',K2,rfl,p2,x2,k2⟩:=q33 hA 3 adv ⟨⟨c,d⟩,p,q⟩ (vety:=41) (c:=1) (o2.setLow w0 (by decide) l0).push (by simp [eAdvert]) (lowIdx_le _ _) hal (by simp [w0]) (by simp;omega) (by simp [q0])
  clear hA
  have b0:=x2.get 0 (by decide)
  have b1:=x2.get 1 (by decide)
  have b2:=x2.get 2 (by decide)
  have q2:=x2.lim
  have w2:=x2.wf
  have m2:=x2.le
  have z0:¬0=K.n:=by omega
  have z1:¬1=K.n:=by omega
  have z2:¬2=K.n:=by omega
  simp [a1,a2,w0,l0,q0,z0,z1,z2]at b0 b1 b2 q2
  have p1:=(((o1.setLow w0 (by decide) l0).push).keep k2 x2.lim (by decide))
  have p3:=(((o3.setLow w0 (by decide) l0).push).keep k2 x2.lim (by decide))
  have p4:=(((o4.setLow w0 (by decide) l0).push).keep k2 x2.lim (by decide))
  have p5:=(((o5.setLow w0 (by decide) l0).push).keep k2 x2.lim (by decide))
  have m0:0<K2.n:=by omega
  have m22:2<K2.n:=by omega
  simp [b0,b1,b2,q2,w2,m0,m22,p2.storable,p2.ecells,turn]
  generalize hA:fc D _ _ _=A
  obtain ⟨v3',K3,rfl,p3',x3,k3⟩:=q34 hA 3 seen ⟨c,d⟩ (vety:=35) (c:=1) (p3.setLow w2 (by decide) m0).push (by simp [eID]) (lowIdx_le _ _) hsl (by simp [w2]) (by simp;omega) (by simp [q2])
  clear hA
  have c0:=x3.get 0 (by decide)
  have c1:=x3.get 1 (by decide)
  have c2:=x3.get 2 (by decide)
  have q3:=x3.lim
  have w3:=x3.wf
  have m3:=x3.le
  have y0:¬0=K2.n:=by omega
  have y1:¬1=K2.n:=by omega
  have y2:¬2=K2.n:=by omega
  simp [b1,b2,w2,m0,q2,y0,y1,y2]at c0 c1 c2 q3
  have m30:0<K3.n:=by omega
  have m32:2<K3.n:=by omega
  replace p1:=((p1.setLow w2 (by decide) m0).push).keep k3 x3.lim (by decide)
  replace p2:=((p2.setLow w2 (by decide) m0).push).keep k3 x3.lim (by decide)
  replace p4:=((p4.setLow w2 (by decide) m0).push).keep k3 x3.lim (by decide)
  replace p5:=((p5.setLow w2 (by decide) m0).push).keep k3 x3.lim (by decide)
  have r1':∀o o',resolve false ((K3.set 0 o).set 2 o') 198 v1=some (eL false 1 cInt near):=fun o o'=>((p1.setLow w3 (by decide) m30).setLow w3.set (by decide) m32).resolve false (fun y _=>(plain_cint y).1) (by decide)
  have r2':=fun o o'=>((p2.setLow (o:=o) w3 (by decide) m30).setLow (o:=o') w3.set (by decide) m32).resolve (n:=198) false (fun y _=>(plain_advert y).1) (by decide)
  have r3':=fun o o'=>((p3'.setLow (o:=o) w3 (by decide) m30).setLow (o:=o') w3.set (by decide) m32).resolve (n:=198) false (fun y _=>(plain_id y).1) (by decide)
  have r4':∀o o',resolve false ((K3.set 0 o).set 2 o') 198 v4=some (eL false 7 eEntry ent):=fun o o'=>((p4.setLow w3 (by decide) m30).setLow w3.set (by decide) m32).resolve false (fun y _=>(plain_entry y).1) (by decide)
  have r5':∀o o',resolve false ((K3.set 0 o).set 2 o') 198 v5=some (eL false 3 eOwn own):=fun o o'=>((p5.setLow w3 (by decide) m30).setLow w3.set (by decide) m32).resolve false (fun y _=>(plain_own y).1) (by decide)
  simp [c0,c1,c2,q3,w3,m30,m32,p3'.storable,p3'.ecells,turn,r1',r2',r3',r4',r5',resultsOf]
  simp [hR,learnB,hm,Tags.none,insAt]
end Go.Dm.Tc
/-
What functions of the program compute,part 4: are two brokers the same?
-/
namespace Go.Dm.Tc
theorem s73 (a b:Pred) (hl:a.length≤1000000):pcF D t73 [ePred a,ePred b]=some (.bool (decide (a=b))):=by
 unfold pcF
 rw [goRun_eq _ _ _ _ (by simp [t73])]
 have:=s104 false false a b hl
 simp only [←ePred.eq_1]at this
 simp [t73,e104,this]
theorem s72 (x y:Advert) (hl:x.pred.length≤1000000):pcF D t72 [eAdvert x,eAdvert y]=some (.bool (decide (x=y))):=by
 unfold pcF
 rw [goRun_eq _ _ _ _ (by simp [t72])]
 by_cases h1:x.id=y.id
 ·by_cases h2:x.parent=y.parent
  ·have:(x=y)=(x.pred=y.pred):=by cases x;cases y;simp_all
   simp [t72,eAdvert,h1,h2,e73,s73,hl,this]
  ·have:x≠y:=fun h=>h2 (by rw [h])
   simp [t72,eAdvert,h1,h2,this]
 ·have:x≠y:=fun h=>h1 (by rw [h])
  simp [t72,eAdvert,id_ne h1,this]
theorem s75 (x y:Entry) (hl:x.pred.length≤1000000):pcF D t75 [eEntry x,eEntry y]=some (.bool (decide (x=y))):=by
 unfold pcF
 rw [goRun_eq _ _ _ _ (by simp [t75])]
 by_cases h1:x.tree=y.tree
 ·by_cases h2:x.sub=y.sub
  ·by_cases h3:x.frm=y.frm
   ·by_cases h4:x.up=y.up
    ·have:(x=y)=(x.pred=y.pred):=by cases x;cases y;simp_all
     simp [t75,eEntry,h1,h2,h3,h4,e73,s73,hl,this]
    ·have:x≠y:=fun h=>h4 (by rw [h])
     simp [t75,eEntry,h1,h2,h3,beq_eq_false_iff_ne.2 h4,this]
   ·have:x≠y:=fun h=>h3 (by rw [h])
    simp [t75,eEntry,h1,h2,h3,this]
  ·have:x≠y:=fun h=>h2 (by rw [h])
   simp [t75,eEntry,h1,id_ne h2,this]
 ·have:x≠y:=fun h=>h1 (by rw [h])
  simp [t75,eEntry,id_ne h1,this]
theorem s77 (x y:OwnS) (hl:x.pred.length≤1000000):pcF D t77 [eOwn x,eOwn y]=some (.bool (decide (x=y))):=by
 unfold pcF
 rw [goRun_eq _ _ _ _ (by simp [t77])]
 by_cases h1:x.id=y.id
 ·have:(x=y)=(x.pred=y.pred):=by cases x;cases y;simp_all
  simp [t77,eOwn,h1,e73,s73,hl,this]
 ·have:x≠y:=fun h=>h1 (by rw [h])
  simp [t77,eOwn,id_ne h1,this]
theorem allB_eq {α:Type} [DecidableEq α]:∀(xs ys:List α),allB (fun x y=>decide (x=y)) xs ys=decide (xs=ys):=by
 intro xs
 induction xs with
 | nil=>intro ys;cases ys<;>simp [allB]
 | cons x xs ih=>intro ys;cases ys<;>simp [allB,ih]
structure SizedP (b:Broker):Prop where
 adv:∀x∈b.adverts,x.pred.length≤1000000
 ent:∀x∈b.entries,x.pred.length≤1000000
 own:∀x∈b.owns,x.pred.length≤1000000
theorem s26 (t u:Tags) (a b:Broker) (hs:Sized a) (hp:SizedP a):pcF D t26 [eBroker t a,eBroker u b]=some (.bool (decide (a=b))):=by
 obtain ⟨z1,z2,z3,z4,z5⟩:=hs
 have q1:=s69 t.near u.near a.near b.near (by omega)
 have q2:=s70 t.seen u.seen a.seen b.seen (by omega)
 have q3:=s71 t.adverts u.adverts a.adverts b.adverts 72 (fun x y=>decide (x=y)) (fun x hx y _ h=>by
  have:=s72 x y (hp.adv x hx)
  simp only [eAdvert]at this
  simp [eAdvert,e72,this]) (by omega)
 have q4:=s74 t.entries u.entries a.entries b.entries 75 (fun x y=>decide (x=y)) (fun x hx y _ h=>by
  have:=s75 x y (hp.ent x hx)
  simp only [eEntry]at this
  simp [eEntry,e75,this]) (by omega)
 have q5:=s76 t.owns u.owns a.owns b.owns 77 (fun x y=>decide (x=y)) (fun x hx y _ h=>by
  have:=s77 x y (hp.own x hx)
  simp only [eOwn]at this
  simp [eOwn,e77,this]) (by omega)
 rw [allB_eq]at q3 q4 q5
 unfold pcF
 rw [goRun_eq _ _ _ _ (by simp [t26])]
 by_cases h1:a.me=b.me
 ·by_cases h2:a.near=b.near
  ·by_cases h3:a.seen=b.seen
   ·by_cases h4:a.adverts=b.adverts
    ·by_cases h5:a.entries=b.entries
     ·have:(a=b)=(a.owns=b.owns):=by cases a;cases b;simp_all
      simp [t26,eBroker,h1,q1,q2,q3,q4,q5,eq_true h2,eq_true h3,eq_true h4,eq_true h5,this,e69,e70,e71,e74,e76]
     ·have:a≠b:=fun h=>h5 (by rw [h])
      simp [t26,eBroker,h1,q1,q2,q3,q4,eq_true h2,eq_true h3,eq_true h4,h5,this,e69,e70,e71,e74]
    ·have:a≠b:=fun h=>h4 (by rw [h])
     simp [t26,eBroker,h1,q1,q2,q3,eq_true h2,eq_true h3,h4,this,e69,e70,e71]
   ·have:a≠b:=fun h=>h3 (by rw [h])
    simp [t26,eBroker,h1,q1,q2,eq_true h2,h3,this,e69,e70]
  ·have:a≠b:=fun h=>h2 (by rw [h])
   simp [t26,eBroker,h1,q1,h2,this,e69]
 ·have:a≠b:=fun h=>h1 (by rw [h])
  simp [t26,eBroker,h1,this]
end Go.Dm.Tc
/-
What functions of the program compute,part 5: the statements' own comparisons of brokers.
-/
namespace Go.Dm.Tc
end Go.Dm.Tc
/-
What functions of the statements' own packages compute: numbers brought into bounds;predicates made of numbers;a broker copied.
-/
namespace Go.Dm.Tc
def within (n lo hi:Int):Int:=if n.tmod (hi-lo+1)<0 then lo+(n.tmod (hi-lo+1)+hi-lo+1) else lo+n.tmod (hi-lo+1)
theorem within_bounds (n:Int) {lo hi:Int} (h:lo≤hi):lo≤within n lo hi∧within n lo hi≤hi:=by
 have h1:0<hi-lo+1:=by omega
 have h2:=Int.tmod_lt_of_pos n h1
 have h3:-(hi-lo+1)<n.tmod (hi-lo+1):=by
  have:=Int.lt_tmod_of_pos n h1
  omega
 unfold within
 split<;>omega
theorem s8 (n lo hi:Int) (h:lo≤hi) (hlo:-1000000000≤lo) (hhi:hi≤1000000000):pcF D t8 [.int .i64 n,.int .i64 lo,.int .i64 hi]=some (.int .i64 (within n lo hi)):=by
 unfold pcF
 rw [goRun_eq _ _ _ _ (by simp [t8])]
 have h1:0<hi-lo+1:=by omega
 have h2:=Int.tmod_lt_of_pos n h1
 have h3:-(hi-lo+1)<n.tmod (hi-lo+1):=by
  have:=Int.lt_tmod_of_pos n h1
  omega
 have w1:IntKind.i64.wrap (hi-lo)=hi-lo:=wrap64 (by omega) (by omega)
 have w2:IntKind.i64.wrap (hi-lo+1)=hi-lo+1:=wrap64 (by omega) (by omega)
 have hne:hi-lo+1≠0:=by omega
 have hr:arithD .rem (.int .i64 n) (.int .i64 (hi-lo+1))=some (.int .i64 (n.tmod (hi-lo+1))):=by simp [arithD,hne]
 by_cases hneg:n.tmod (hi-lo+1)<0
 ·have w3:IntKind.i64.wrap (n.tmod (hi-lo+1)+hi)=n.tmod (hi-lo+1)+hi:=wrap64 (by omega) (by omega)
  have w4:IntKind.i64.wrap (n.tmod (hi-lo+1)+hi-lo)=n.tmod (hi-lo+1)+hi-lo:=wrap64 (by omega) (by omega)
  have w5:IntKind.i64.wrap (n.tmod (hi-lo+1)+hi-lo+1)=n.tmod (hi-lo+1)+hi-lo+1:=wrap64 (by omega) (by omega)
  have w6:IntKind.i64.wrap (lo+(n.tmod (hi-lo+1)+hi-lo+1))=lo+(n.tmod (hi-lo+1)+hi-lo+1):=wrap64 (by omega) (by omega)
  simp [t8,w1,w2,hr,hneg,w3,w4,w5,w6,within]
 ·have w6:IntKind.i64.wrap (lo+n.tmod (hi-lo+1))=lo+n.tmod (hi-lo+1):=wrap64 (by omega) (by omega)
  simp [t8,w1,w2,hr,hneg,w6,within]
def namesL:List (List UInt8):=[[97],[98],[99],[100],[101],[102],[103]]
def textsL:List (List UInt8):=[[],[120],[120,121],[120,121,122],[120,122],[121],[121,121]]
theorem s35:pcF D t35 []=some (eL false 1 eStr namesL):=by
 unfold pcF
 rw [goRun_eq _ _ _ _ (by simp [t35])]
 simp [t35,List.replicate]
 exact ⟨rfl,rfl⟩
theorem s90:pcF D t90 []=some (eL false 1 eStr textsL):=by
 unfold pcF
 rw [goRun_eq _ _ _ _ (by simp [t90])]
 simp [t90,List.replicate]
 exact ⟨rfl,rfl⟩
def pickI (l:List Int) (i:Nat):Int:=if l.length=0 then 0 else l.getD (i % l.length) 0
theorem s37 (t:Bool) (l:List Int) (i:Nat):pcF D t37 [eL t 1 cInt l,.int .i64 i]=some (.int .i64 (pickI l i)):=by
 unfold pcF
 rw [goRun_eq _ _ _ _ (by simp [t37])]
 cases l with
 | nil=>simp [t37,pickI]
 | cons x l =>
  have hne:((l.length:Int)+1)≠0:=by omega
  have hr:arithD .rem (.int .i64 (i:Int)) (.int .i64 ((l.length:Int)+1))=some (.int .i64 ((i % (l.length+1):Nat):Int)):=by
   simp only [arithD,if_true,if_neg hne]
   congr 2
  have hlt:i % (l.length+1)<(x::l).length:=by simp;exact Nat.mod_lt _ (by omega)
  simp [t37,hr,-Int.natCast_emod,List.getElem?_eq_getElem hlt,cInt,pickI,hne]
def mkCons (name:List UInt8) (n:Int):Cons :=
 if within n 0 3=0∨within n 0 3=1 then ⟨name,1,within (IntKind.i64.wrap (n.tdiv 4)) 0 9,within (IntKind.i64.wrap (n.tdiv 4)) 0 9+within (IntKind.i64.wrap (n.tdiv 40)) 0 9,[]⟩
 else ⟨name,if within n 0 3=2 then 2 else 3,0,0,textsL.getD (within (IntKind.i64.wrap (n.tdiv 4)) 0 6).toNat []⟩
set_option maxRecDepth 8000 in
theorem s36 (name:List UInt8) (n:Int):pcF D t36 [.str name,.int .i64 n]=some (eCons (mkCons name n)):=by
 unfold pcF
 rw [goRun_eq _ _ _ _ (by simp [t36])]
 have w0:=s8 n 0 3 (by decide) (by decide) (by decide)
 have w1:=fun m=>s8 m 0 9 (by decide) (by decide) (by decide)
 have w2:=fun m=>s8 m 0 6 (by decide) (by decide) (by decide)
 have hq4:arithD .quo (.int .i64 n) (.int .i64 4)=some (.int .i64 (IntKind.i64.wrap (n.tdiv 4))):=rfl
 have hq40:arithD .quo (.int .i64 n) (.int .i64 40)=some (.int .i64 (IntKind.i64.wrap (n.tdiv 40))):=rfl
 by_cases h01:within n 0 3=0∨within n 0 3=1
 ·have b1:=within_bounds (IntKind.i64.wrap (n.tdiv 4)) (show (0:Int)≤9 by decide)
  have b2:=within_bounds (IntKind.i64.wrap (n.tdiv 40)) (show (0:Int)≤9 by decide)
  have w3:IntKind.i64.wrap (within (IntKind.i64.wrap (n.tdiv 4)) 0 9+within (IntKind.i64.wrap (n.tdiv 40)) 0 9)=within (IntKind.i64.wrap (n.tdiv 4)) 0 9+within (IntKind.i64.wrap (n.tdiv 40)) 0 9:=wrap64 (by omega) (by omega)
  rcases h01 with h0|h1
  ·simp [t36,e8,w0,w1,hq4,hq40,h0,turn]
   rw [w3]
   simp [mkCons,eCons,h0]
  ·simp [t36,e8,w0,w1,hq4,hq40,h1,turn]
   rw [w3]
   simp [mkCons,eCons,h1]
 ·have b1:=within_bounds (IntKind.i64.wrap (n.tdiv 4)) (show (0:Int)≤6 by decide)
  have hlt:(within (IntKind.i64.wrap (n.tdiv 4)) 0 6).toNat<textsL.length:=by simp [textsL];omega
  obtain ⟨tx,hx⟩:∃ tx,textsL[(within (IntKind.i64.wrap (n.tdiv 4)) 0 6).toNat]?=some tx:=⟨_,List.getElem?_eq_getElem hlt⟩
  have h0:¬within n 0 3=0:=fun h=>h01 (.inl h)
  have h1:¬within n 0 3=1:=fun h=>h01 (.inr h)
  by_cases h2:within n 0 3=2
  ·simp [t36,e8,w0,w2,hq4,h0,h1,h2,turn,e90,s90,b1.1,hx,eStr]
   simp [mkCons,eCons,h0,h1,h2,hx]
  ·simp [t36,e8,w0,w2,hq4,h0,h1,h2,turn,e90,s90,b1.1,hx,eStr]
   simp [mkCons,eCons,h0,h1,h2,hx]
end Go.Dm.Tc
/-
What functions of the statements' own packages compute: predicates made of numbers.
-/
namespace Go.Dm.Tc
def and1 (n:Int):Int:=IntKind.i64.wrap ((BitVec.ofInt 64 n &&& BitVec.ofInt 64 1).toNat:Int)
def odd1 (n:Int):Bool:=decide (and1 n=1)
def mkPredA (has vals:List Int):List (List UInt8)→Nat→Pred→Pred
 | [],_,acc=>acc
 | nm::r,i,acc=>if i<has.length∧odd1 (has.getD i 0)=true∧acc.length<5 then mkPredA has vals r (i+1) (acc++[mkCons nm (pickI vals i)]) else mkPredA has vals r (i+1) acc
def mkPred (has vals:List Int):Pred:=mkPredA has vals namesL 0 []
theorem and_one (n:Int):arithD .and (.int .i64 n) (.int .i64 1)=some (.int .i64 (and1 n)):=rfl
theorem own_cons {lo:Nat} {h:Heap} {v:DV} {ety:Nat} {ys:List Cons} (w:Own lo h v ety 5 (ys.map eCons)):pcOut (some (v,h))=some (ePred ys):=w.out (fun y _=>(plain_con y).1.mono (by decide)) (fun y _=>(plain_con y).2.mono (by decide)) (k:=22) (by decide)
set_option maxRecDepth 8000 in
theorem l10 (th tv:Bool) (has vals:List Int) (tp:Nat) (h0:Heap) (g0:h0.get 0=some (.arr tp 2 [.agg [eL th 1 cInt has,eL tv 1 cInt vals]] (some 1))) (hlim:h0.lim=0) (hl:has.length≤9223372036854775807) :
  ∀(rest:List (List UInt8)) (acc:Pred) (i:Nat) (f:FEnv) (h:Heap),namesL.drop i=rest→acc.length≤i→f 1=.ptr 0 2 0 0→f 6=eL false 1 eStr namesL→f 7=.int .i64 7→f 8=.int .i64 i→Own 1 h (f 3) 63 5 (acc.map eCons)→Ext 1 h0 h →
  pcOut (fin [.t 2] (run D 43 [.block 0,.seq t10k0] (.loop t10l0) f h))=some (ePred (mkPredA has vals rest i acc)):=by
 intro rest
 induction rest with
 | nil =>
  intro acc i f h hd ha h1 h6 h7 h8 ho hx
  have hi:=drop_nil hd
  have:¬((i:Int)<7):=by simp [namesL]at hi;omega
  rw [run_loop_of t10l0.eq_1]
  simp [t10k0,h7,h8,this,mkPredA]
  exact own_cons ho
 | cons nm rest ih =>
  intro acc i f h hd ha h1 h6 h7 h8 ho hx
  obtain ⟨hi,he,hd'⟩:=drop_at hd
  have hi7:i<7:=by simpa [namesL] using hi
  have hlt:(i:Int)<7:=by omega
  have hg0:=(hx.get 0 (by decide)).trans g0
  have w1:IntKind.i64.wrap ((i:Int)+1)=(i:Int)+1:=wrap64 (by omega) (by omega)
  have hpk:=s37 tv vals i
  have hlen:lenV h 1 (f 3)=some (.int .i64 (acc.length:Int)):=by simpa using ho.lenV
  rw [run_loop_of t10l0.eq_1]
  by_cases c1:i<has.length
  ·obtain ⟨b,hb⟩:∃ b,has[i]=b:=⟨_,rfl⟩
   have hb':has.getD i 0=b:=by rw [List.getD_eq_getElem?_getD,List.getElem?_eq_getElem c1,hb];rfl
   by_cases c2:and1 b=1
   ·by_cases c3:acc.length<5
    ·have c3':(acc.length:Int)<5:=by omega
     have hm:mkPredA has vals (nm::rest) i acc=mkPredA has vals rest (i+1) (acc++[mkCons nm (pickI vals i)]):=by simp only [mkPredA];rw [if_pos ⟨c1,by rw [hb'];simp [odd1,c2],c3⟩]
     rw [hm]
     simp [h1,h6,h7,h8,hlt,hg0,hi,he,eStr,cInt,c1,hb,and_one,c2,hlen,c3',e37,hpk,e36,s36,eCons]
     generalize hA:appendD _ _ _ _ _ _=A
     obtain ⟨v',h',rfl,ho',hx'⟩:=ho.push.append hx.push.wf hx.push.le (by rw [hx.push.lim,hlim];omega) hA (by simp;omega) (by decide)
     simp [w1,h8]
     refine ih (acc++[mkCons nm (pickI vals i)]) (i+1) _ h' hd' (by simp;omega) ?_ ?_ ?_ ?_ ?_ (hx.push.trans hx')<;>simp [h1,h6,h7]
     simpa [eCons] using ho'
    ·have c3':¬(acc.length:Int)<5:=by omega
     have hm:mkPredA has vals (nm::rest) i acc=mkPredA has vals rest (i+1) acc:=by simp only [mkPredA];rw [if_neg (fun q=>c3 q.2.2)]
     rw [hm]
     simp [h1,h6,h7,h8,hlt,hg0,hi,he,eStr,cInt,c1,hb,and_one,c2,hlen,c3',w1]
     refine ih acc (i+1) _ h hd' (by omega) ?_ ?_ ?_ ?_ ?_ hx<;>simp [h1,h6,h7,ho]
   ·have hm:mkPredA has vals (nm::rest) i acc=mkPredA has vals rest (i+1) acc:=by simp only [mkPredA];rw [if_neg (fun q=>c2 (by rw [hb']at q;simpa [odd1] using q.2.1))]
    rw [hm]
    simp [h1,h6,h7,h8,hlt,hg0,hi,he,eStr,cInt,c1,hb,and_one,c2,w1]
    refine ih acc (i+1) _ h hd' (by omega) ?_ ?_ ?_ ?_ ?_ hx<;>simp [h1,h6,h7,ho]
  ·have c1':¬((i:Int)<has.length):=by omega
   have hm:mkPredA has vals (nm::rest) i acc=mkPredA has vals rest (i+1) acc:=by simp only [mkPredA];rw [if_neg (fun q=>c1 q.1)]
   rw [hm]
   simp [h1,h6,h7,h8,hlt,hg0,hi,he,eStr,c1,w1]
   refine ih acc (i+1) _ h hd' (by omega) ?_ ?_ ?_ ?_ ?_ hx<;>simp [h1,h6,h7,ho]
theorem s10 (th tv:Bool) (has vals:List Int) (hl:has.length≤9223372036854775807) :
  pcF D t10 [.agg [eL th 1 cInt has,eL tv 1 cInt vals]]=some (ePred (mkPred has vals)):=by
 unfold pcF
 rw [goRun_eq _ _ _ _ (by simp [t10])]
 simp [t10,e35,s35]
 refine l10 th tv has vals 24 _ ?_ ?_ hl namesL [] 0 _ _ rfl (by simp) ?_ ?_ ?_ ?_ ?_ (Ext.refl ?_ ?_)<;>simp [namesL]
 exact .start _ _ _ _
end Go.Dm.Tc
/-
What functions of the statements' own packages compute: a broker copied;the reference's orders and searches.
-/
namespace Go.Dm.Tc
end Go.Dm.Tc
/-
What the reference's functions compute,part 1: orders,searches,an advertisement learned.
-/
namespace Go.Dm.Tc
end Go.Dm.Tc
/-
What the reference's functions compute,part 2: an advertisement learned.
-/
namespace Go.Dm.Tc
end Go.Dm.Tc
/-
What functions of the program compute,part 9: what may be a name,a constraint,a predicate.
-/
namespace Go.Dm.Tc
def letters (s:List UInt8):Bool:=s.all fun b=>decide (97≤b.toNat) && decide (b.toNat≤122)
def nameOk (s:List UInt8):Bool:=letters s && !decide (s=[]) && decide (s.length≤12)
theorem l120 (xs:List UInt8) (hl:xs.length≤1000000) :
  ∀(rest:List UInt8) (i:Nat) (f:FEnv) (h:Heap),xs.drop i=rest→f 0=.str xs→f 5=.int .i64 xs.length→f 6=.int .i64 i →
  pcOut (fin [.t 2] (run D 27 [.block 0,.seq t120k0] (.loop t120l0) f h))=some (.bool (letters rest && !decide (xs=[]) && decide (xs.length≤12))):=by
 intro rest
 induction rest with
 | nil =>
  intro i f h hd h0 h5 h6
  have hi:=drop_nil hd
  have:¬(i<xs.length):=by omega
  rw [run_loop_of t120l0.eq_1]
  by_cases hx:xs=[]
  ·subst hx
   have h0i:¬(i:Int)<0:=by omega
   simp [t120k0,h0,h5,h6,h0i,letters]
  ·have hb:(xs == ([]:List UInt8))=false:=by cases xs<;>simp_all
   simp [t120k0,h0,h5,h6,this,hx,hb,letters]
   omega
 | cons e rest ih =>
  intro i f h hd h0 h5 h6
  obtain ⟨hi,he,hd'⟩:=drop_at hd
  have hq:∀k,indexStrV (.str xs) (.int k (i:Int))=some (.int .u8 e.toNat):=fun k=>indexStrV_nat xs k i (by rw [List.getElem?_eq_getElem hi,he])
  rw [run_loop_of t120l0.eq_1]
  by_cases h1:e.toNat<97
  ·have h1':(e.toNat:Int)<97:=by omega
   have hle:letters (e::rest)=false:=by
    have:¬97≤e.toNat:=by omega
    simp only [letters,List.all_cons,decide_eq_false this,Bool.false_and]
   simp [h0,h5,h6,hi,hq,h1',hle]
  ·have h1':¬(e.toNat:Int)<97:=by omega
   by_cases h2:122<e.toNat
   ·have h2':(122:Int)<e.toNat:=by omega
    have hle:letters (e::rest)=false:=by
     have:¬e.toNat≤122:=by omega
     simp only [letters,List.all_cons,decide_eq_false this,Bool.and_false,Bool.false_and]
    simp [h0,h5,h6,hi,hq,h1',h2',hle]
   ·have h2':¬(122:Int)<e.toNat:=by omega
    have hle:letters (e::rest)=letters rest:=by
     have q1:97≤e.toNat:=by omega
     have q2:e.toNat≤122:=by omega
     simp only [letters,List.all_cons,decide_eq_true q1,decide_eq_true q2,Bool.true_and]
    simp [h0,h5,h6,hi,hq,h1',h2',hle]
    rw [wrap64 (by omega) (by omega)]
    refine (ih (i+1) _ h hd' ?_ ?_ ?_).trans ?_<;>simp [h0,h5]
theorem s120 (xs:List UInt8) (hl:xs.length≤1000000):pcF D t120 [.str xs]=some (.bool (nameOk xs)):=by
 unfold pcF
 rw [goRun_eq _ _ _ _ (by simp [t120])]
 simp [t120]
 refine (l120 xs hl xs 0 _ _ rfl ?_ ?_ ?_).trans ?_<;>simp [nameOk]
def rightOne (c : Cons) : Bool :=
  nameOk c.name &&
    (if c.kind = 1 then decide (c.lo ≤ c.hi) && decide (c.text = [])
     else if c.kind = 3 then !decide (c.text.length = 12) && (decide (c.lo = 0) && decide (c.hi = 0) && decide (c.text.length ≤ 12))
     else if c.kind = 2 then decide (c.lo = 0) && decide (c.hi = 0) && decide (c.text.length ≤ 12)
     else false)
theorem s95 (nm:List UInt8) (k lo hi:Int) (tx:List UInt8) (hl:nm.length≤1000000) :
  pcF D t95 [.agg [.str nm,.int .i64 k,.int .i64 lo,.int .i64 hi,.str tx]]=some (.bool (rightOne ⟨nm,k,lo,hi,tx⟩)):=by
 unfold pcF
 rw [goRun_eq _ _ _ _ (by simp [t95])]
 cases hn:nameOk nm with
 | false=>simp [t95,e120,s120,hl,hn,rightOne]
 | true =>
  have hlen:∀n:Nat,((tx.length:Int) == (n:Int))=decide (tx.length=n):=fun n=>by
   by_cases h:tx.length=n
   ·simp [h]
   ·have h':¬(tx.length:Int)=n:=by omega
    simp [h,h']
  have hnil:(tx == ([]:List UInt8))=decide (tx=[]):=by cases tx<;>simp
  by_cases k1:k=1
  ·subst k1
   by_cases h1:lo≤hi
   ·simp [t95,e120,s120,hl,hn,rightOne,h1,hnil]
   ·simp [t95,e120,s120,hl,hn,rightOne,h1,hnil]
  ·by_cases k3:k=3
   ·subst k3
    by_cases h12:tx.length=12
    ·simp [t95,e120,s120,hl,hn,rightOne,h12]
    ·have h12':¬(tx.length:Int)=12:=by omega
     by_cases hlo:lo=0
     ·by_cases hhi:hi=0
      ·simp [t95,e120,s120,hl,hn,rightOne,h12,h12',hlo,hhi]
       omega
      ·simp [t95,e120,s120,hl,hn,rightOne,h12,h12',hlo,hhi]
     ·simp [t95,e120,s120,hl,hn,rightOne,h12,h12',hlo]
   ·by_cases k2:k=2
    ·subst k2
     by_cases hlo:lo=0
     ·by_cases hhi:hi=0
      ·simp [t95,e120,s120,hl,hn,rightOne,hlo,hhi]
       omega
      ·simp [t95,e120,s120,hl,hn,rightOne,hlo,hhi]
     ·simp [t95,e120,s120,hl,hn,rightOne,hlo]
    ·simp [t95,e120,s120,hl,hn,rightOne,k1,k2,k3]
def rightA:Option (List UInt8)→Pred→Bool
 | _,[]=>true
 | prev,c::r=>rightOne c && (match prev with|none=>true|some n=>Go.Op.bytesLess n c.name) && rightA (some c.name) r
def rightP (p:Pred):Bool:=rightA none p && decide (p.length≤5)
def NamesP (p:Pred):Prop:=p.length≤1000000∧∀c∈p,c.name.length≤1000000
theorem l55 (p:Pred) (hp:NamesP p) :
  ∀(rest:Pred) (prev:Option (List UInt8)) (i:Nat) (f:FEnv) (h:Heap),p.drop i=rest→((i=0∧prev=none)∨∃ j c,i=j+1∧p[j]?=some c∧prev=some c.name) →
   f 0=eL false 5 eCons p→f 5=eL false 5 eCons p→f 6=.int .i64 p.length→f 7=.int .i64 i→h.lim=0 →
  pcOut (fin [.t 2] (run D 34 [.block 0,.seq t55k0] (.loop t55l0) f h))=some (.bool (rightA prev rest && decide (p.length≤5))):=by
 obtain ⟨hp1,hp2⟩:=hp
 intro rest
 induction rest with
 | nil =>
  intro prev i f h hd hv h0 h5 h6 h7 hlim
  have hi:=drop_nil hd
  have:¬(i<p.length):=by omega
  rw [run_loop_of t55l0.eq_1]
  simp [t55k0,h0,h6,h7,this,rightA]
  omega
 | cons c rest ih =>
  intro prev i f h hd hv h0 h5 h6 h7 hlim
  obtain ⟨hi,he,hd'⟩:=drop_at hd
  have hnm:c.name.length≤1000000:=hp2 c (by rw [←he];exact List.getElem_mem hi)
  rw [run_loop_of t55l0.eq_1]
  cases hr:rightOne c with
  | false =>
   have hr':rightOne ⟨c.name,c.kind,c.lo,c.hi,c.text⟩=false:=hr
   simp [h0,h5,h6,h7,hi,he,hlim,eCons,e95,s95,hnm,hr',rightA,hr]
  | true =>
   have hr':rightOne ⟨c.name,c.kind,c.lo,c.hi,c.text⟩=true:=hr
   rcases hv with ⟨i0,hpv⟩|⟨j,c0,ij,hj,hpv⟩
   ·subst hpv
    have hpos:¬0<i:=by omega
    simp [h0,h5,h6,h7,hi,he,hlim,eCons,e95,s95,hnm,hr',hpos]
    rw [wrap64 (by omega) (by omega)]
    refine (ih (some c.name) (i+1) _ _ hd' (.inr ⟨i,c,rfl,by rw [List.getElem?_eq_getElem hi,he],rfl⟩) ?_ ?_ ?_ ?_ ?_).trans ?_<;>simp [h0,h5,h6,eCons,hlim,rightA,hr]
   ·subst hpv
    subst ij
    have hpos:(0:Int)<(j:Int)+1:=by omega
    have hw:IntKind.i64.wrap (j:Int)=j:=wrap64 (by omega) (by omega)
    have hjj:j<p.length:=by omega
    have hlt:(j:Int)+1<p.length:=by omega
    have hj':p[j]=c0:=by rw [List.getElem?_eq_getElem hjj]at hj;exact Option.some.inj hj
    cases hb:Go.Op.bytesLess c0.name c.name with
    | false=>simp [h0,h5,h6,h7,hi,he,hlim,eCons,e95,s95,hnm,hr',hpos,hlt,hw,hjj,hj',hb,rightA]
    | true =>
     simp [h0,h5,h6,h7,hi,he,hlim,eCons,e95,s95,hnm,hr',hpos,hlt,hw,hjj,hj',hb]
     rw [wrap64 (by omega) (by omega)]
     refine (ih (some c.name) (j+1+1) _ _ hd' (.inr ⟨j+1,c,rfl,by rw [List.getElem?_eq_getElem hi,he],rfl⟩) ?_ ?_ ?_ ?_ ?_).trans ?_<;>simp [h0,h5,h6,eCons,hlim,rightA,hr,hb]
theorem s55 (p:Pred) (hp:NamesP p):pcF D t55 [ePred p]=some (.bool (rightP p)):=by
 unfold pcF
 rw [goRun_eq _ _ _ _ (by simp [t55])]
 simp only [ePred]
 simp [t55]
 refine (l55 p hp p none 0 _ _ rfl (.inl ⟨rfl,rfl⟩) ?_ ?_ ?_ ?_ ?_).trans ?_<;>simp [rightP]
end Go.Dm.Tc
/-
What functions of the program compute,part 10: is a broker right?
-/
namespace Go.Dm.Tc
def linkB (b:Broker) (n:Int):Bool:=decide (n=-1) || b.near.contains n
theorem s54 (x0 x2 x3 x4 x5:DV) (t:Bool) (l:List Int) (n:Int) (hl:l.length≤1000000) :
  pcF D t54 [.agg [x0,eL t 1 cInt l,x2,x3,x4,x5],.int .i64 n]=some (.bool (decide (n=-1) || l.contains n)):=by
 unfold pcF
 rw [goRun_eq _ _ _ _ (by simp [t54])]
 by_cases h:n=-1
 ·simp [t54,h]
 ·simp [t54,h,e94,s94,hl]
theorem s43 (a b:Int):pcF D t43 [.int .i64 a,.int .i64 b]=some (.bool (decide (a<b))):=by
 unfold pcF
 rw [goRun_eq _ _ _ _ (by simp [t43])]
 simp [t43]
theorem s46 (a b c d:Int) (p q r s:DV):pcF D t46 [.agg [.int .i64 a,.int .i64 b,p,q],.agg [.int .i64 c,.int .i64 d,r,s]]=some (.bool (ltID ⟨a,b⟩ ⟨c,d⟩)):=by
 unfold pcF
 rw [goRun_eq _ _ _ _ (by simp [t46])]
 simp [t46,e14,s14]
theorem s48 (a b c d:Int) (p r:DV):pcF D t48 [.agg [.int .i64 a,.int .i64 b,p],.agg [.int .i64 c,.int .i64 d,r]]=some (.bool (ltID ⟨a,b⟩ ⟨c,d⟩)):=by
 unfold pcF
 rw [goRun_eq _ _ _ _ (by simp [t48])]
 simp [t48,e14,s14]
def cmpE (t1 s1 t2 s2:ID):Int:=orI (cmpID t1 t2) (cmpID s1 s2)
def ltE (x y:Entry):Bool:=decide (cmpE x.tree x.sub y.tree y.sub<0)
theorem s50 (a b c d a' b' c' d':Int) (p q r p' q' r':DV) :
  pcF D t50 [.agg [.int .i64 a,.int .i64 b,.int .i64 c,.int .i64 d,p,q,r],.agg [.int .i64 a',.int .i64 b',.int .i64 c',.int .i64 d',p',q',r']]=some (.bool (decide (cmpE ⟨a,b⟩ ⟨c,d⟩ ⟨a',b'⟩ ⟨c',d'⟩<0))):=by
 unfold pcF
 rw [goRun_eq _ _ _ _ (by simp [t50])]
 simp [t50,e41,s41,e51,mkIsl,s51,cmpE]
 exact decide_eq_decide.2 Iff.rfl
theorem rising_of {α:Type} {key:α→ID}:∀{l:List α},risesB (fun x y=>ltID (key x) (key y)) l=true→Rising (l.map key)
 | [],_=>List.Pairwise.nil
 | [a],_=>by simp [Rising]
 | a::b::r,h=>by
  simp only [risesB,Bool.and_eq_true]at h
  have ih:Rising ((b::r).map key):=rising_of h.2
  have h1:cmpID (key a) (key b)<0:=by simpa [ltID] using h.1
  unfold Rising at *
  rw [List.map_cons,List.pairwise_cons]
  refine ⟨fun x hx=>?_,ih⟩
  rw [List.map_cons]at hx ih
  rcases List.mem_cons.1 hx with rfl|hx
  ·exact h1
  ·exact cmpID_trans h1 ((List.pairwise_cons.1 ih).1 x hx)
theorem of_rising {α:Type} {key:α→ID}:∀{l:List α},Rising (l.map key)→risesB (fun x y=>ltID (key x) (key y)) l=true
 | [],_=>rfl
 | [a],_=>rfl
 | a::b::r,h=>by
  unfold Rising at h
  rw [List.map_cons,List.pairwise_cons]at h
  simp only [risesB,Bool.and_eq_true]
  refine ⟨?_,of_rising (l:=b::r) h.2⟩
  have:=h.1 (key b) (by simp)
  simpa [ltID] using this
def rightEnt (b:Broker) (e:Entry):Bool :=
 match b.adverts.find? (fun a=>a.id=e.tree) with
 | none=>false
 | some a=>linkB b e.frm && (!decide (e.frm=a.parent) || decide (a.parent=-1)) && !(e.up && decide (a.parent=-1)) && rightP e.pred
theorem s58 (me:Int) (x3 x4 x5:DV) (t u:Bool) (near:List Int) (l:List Advert) (e:Entry) (b:Broker) (hb:b.near=near) (hb2:b.adverts=l) (hr:Rising (l.map (·.id))) (hl:l.length≤1000000) (hn:near.length≤1000000) (f3:Flat 20 x3) (f4:Flat 20 x4) (f5:Flat 20 x5) (hp:NamesP e.pred) :
  pcF D t58 [.agg [.int .i64 me,eL u 1 cInt near,eL t 4 eAdvert l,x3,x4,x5],.agg [.int .i64 e.tree.client,.int .i64 e.tree.seq,.int .i64 e.sub.client,.int .i64 e.sub.seq,ePred e.pred,.int .i64 e.frm,.bool e.up]]=some (.bool (rightEnt b e)):=by
 have g3:∀tg h,resolve tg h 199 x3=some x3:=fun tg h=>f3 _ _ _ (by decide)
 have g4:∀tg h,resolve tg h 199 x4=some x4:=fun tg h=>f4 _ _ _ (by decide)
 have g5:∀tg h,resolve tg h 199 x5=some x5:=fun tg h=>f5 _ _ _ (by decide)
 have hfd:=fun c d=>s12 (.int .i64 me) (eL u 1 cInt near) x3 x4 x5 t l c d hr hl ((flat_int _ _).mono (by decide)) ((flat_eL _ _ _ _).mono (by decide)) f3 f4 f5
 subst hb
 subst hb2
 unfold pcF
 rw [goRun_eq _ _ _ _ (by simp [t58])]
 cases hq:b.adverts.find? (fun a=>a.id=⟨e.tree.client,e.tree.seq⟩) with
 | none =>
  have hq':b.adverts.find? (fun a=>a.id=e.tree)=none:=hq
  simp [t58,g3,g4,g5,e12,hfd,hq,hasO,advZero,eAdvert,turn,rightEnt,hq']
 | some a =>
  have hq':b.adverts.find? (fun a=>a.id=e.tree)=some a:=hq
  have hlk:=s54 (.int .i64 me) (eL t 4 eAdvert b.adverts) x3 x4 x5 u b.near e.frm hn
  have hrt:=s55 e.pred hp
  obtain ⟨L,hL⟩:∃ L,(decide (e.frm=-1) || b.near.contains e.frm)=L:=⟨_,rfl⟩
  obtain ⟨R,hR⟩:∃ R,rightP e.pred=R:=⟨_,rfl⟩
  rw [hL]at hlk
  rw [hR]at hrt
  have hlkB:linkB b e.frm=L:=hL
  cases L with
  | false=>simp [t58,g3,g4,g5,e12,hfd,hq,hasO,eAdvert,turn,rightEnt,hq',e54,hlk,hlkB]
  | true =>
   by_cases hpl:a.parent=-1
   ·cases hup:e.up with
    | true =>
     by_cases hfp:e.frm=-1
     ·simp [t58,g3,g4,g5,e12,hfd,hq,hasO,eAdvert,turn,rightEnt,hq',e54,hlk,hlkB,hpl,eq_true hfp,hup]
     ·simp [t58,g3,g4,g5,e12,hfd,hq,hasO,eAdvert,turn,rightEnt,hq',e54,hlk,hlkB,hpl,hfp,hup]
    | false =>
     by_cases hfp:e.frm=-1
     ·cases R<;>simp [t58,g3,g4,g5,e12,hfd,hq,hasO,eAdvert,turn,rightEnt,hq',e54,hlk,hlkB,hpl,eq_true hfp,hup,e55,hrt,hR]
     ·cases R<;>simp [t58,g3,g4,g5,e12,hfd,hq,hasO,eAdvert,turn,rightEnt,hq',e54,hlk,hlkB,hpl,hfp,hup,e55,hrt,hR]
   ·by_cases hfp:e.frm=a.parent
    ·simp [t58,g3,g4,g5,e12,hfd,hq,hasO,eAdvert,turn,rightEnt,hq',e54,hlk,hlkB,hpl,eq_true hfp]
    ·cases hup:e.up<;>cases R<;>simp [t58,g3,g4,g5,e12,hfd,hq,hasO,eAdvert,turn,rightEnt,hq',e54,hlk,hlkB,hpl,hfp,hup,e55,hrt,hR]
end Go.Dm.Tc
/-
What functions of the program compute,part 11: is a broker right? All of it.
-/
namespace Go.Dm.Tc
structure SizedN (b:Broker):Prop where
 adv:∀x∈b.adverts,NamesP x.pred
 ent:∀x∈b.entries,NamesP x.pred
 own:∀x∈b.owns,NamesP x.pred
def rightAdv (b:Broker) (a:Advert):Bool:=decide (a.id∈b.seen) && linkB b a.parent && rightP a.pred
def bCells (t:Tags) (b:Broker):List DV:=[.int .i64 b.me,eL t.near 1 cInt b.near,eL t.adverts 4 eAdvert b.adverts,eL t.seen 2 eID b.seen,eL t.entries 7 eEntry b.entries,eL t.owns 3 eOwn b.owns]
theorem s53 (tg:Bool) (t:Tags) (b:Broker) (a:Advert) (hs:Sized b) (hr:Rising b.seen) (hp:NamesP a.pred) :
  pcF D t53 [.agg [.int .i64 a.id.client,.int .i64 a.id.seq,ePred a.pred,.int .i64 a.parent],.iptr tg [.int .i64 b.me,eL t.near 1 cInt b.near,eL t.adverts 4 eAdvert b.adverts,eL t.seen 2 eID b.seen,eL t.entries 7 eEntry b.entries,eL t.owns 3 eOwn b.owns] 0]=some (.bool (!rightAdv b a)):=by
 obtain ⟨z1,z2,z3,z4,z5⟩:=hs
 have f:=fun {α:Type} (t:Bool) (sz:Nat) (e:α→DV) (xs:List α)=>(flat_eL t sz e xs).mono (show 1≤20 by decide)
 have hsn:=s11 (.int .i64 b.me) (eL t.near 1 cInt b.near) (eL t.adverts 4 eAdvert b.adverts) (eL t.entries 7 eEntry b.entries) (eL t.owns 3 eOwn b.owns) t.seen b.seen a.id.client a.id.seq hr (by omega) ((flat_int _ _).mono (by decide)) (f _ _ _ _) (f _ _ _ _) (f _ _ _ _) (f _ _ _ _)
 have hlk:=s54 (.int .i64 b.me) (eL t.adverts 4 eAdvert b.adverts) (eL t.seen 2 eID b.seen) (eL t.entries 7 eEntry b.entries) (eL t.owns 3 eOwn b.owns) t.near b.near a.parent (by omega)
 have hrt:=s55 a.pred hp
 obtain ⟨S,hS⟩:∃ S,decide (a.id∈b.seen)=S:=⟨_,rfl⟩
 obtain ⟨L,hL⟩:∃ L,linkB b a.parent=L:=⟨_,rfl⟩
 obtain ⟨R,hR⟩:∃ R,rightP a.pred=R:=⟨_,rfl⟩
 rw [show decide ((⟨a.id.client,a.id.seq⟩:ID)∈b.seen)=S from hS]at hsn
 rw [show (decide (a.parent=-1) || b.near.contains a.parent)=L from hL]at hlk
 rw [hR]at hrt
 unfold pcF
 rw [goRun_eq _ _ _ _ (by simp [t53])]
 cases S<;>cases L<;>cases R<;>simp [t53,e11,hsn,e54,hlk,e55,hrt,rightAdv,hS,hL,hR]
theorem s57 (tg:Bool) (t:Tags) (b:Broker) (e:Entry) (hs:Sized b) (hr:Rising (b.adverts.map (·.id))) (hp:NamesP e.pred) :
  pcF D t57 [.agg [.int .i64 e.tree.client,.int .i64 e.tree.seq,.int .i64 e.sub.client,.int .i64 e.sub.seq,ePred e.pred,.int .i64 e.frm,.bool e.up],.iptr tg [.int .i64 b.me,eL t.near 1 cInt b.near,eL t.adverts 4 eAdvert b.adverts,eL t.seen 2 eID b.seen,eL t.entries 7 eEntry b.entries,eL t.owns 3 eOwn b.owns] 0]=some (.bool (!rightEnt b e)):=by
 obtain ⟨z1,z2,z3,z4,z5⟩:=hs
 have f:=fun {α:Type} (t:Bool) (sz:Nat) (e:α→DV) (xs:List α)=>(flat_eL t sz e xs).mono (show 1≤20 by decide)
 have hre:=s58 b.me (eL t.seen 2 eID b.seen) (eL t.entries 7 eEntry b.entries) (eL t.owns 3 eOwn b.owns) t.adverts t.near b.near b.adverts e b rfl rfl hr (by omega) (by omega) (f _ _ _ _) (f _ _ _ _) (f _ _ _ _) hp
 unfold pcF
 rw [goRun_eq _ _ _ _ (by simp [t57])]
 simp [t57,e58,hre]
theorem s60 (a b:Int) (p:Pred) (hp:NamesP p):pcF D t60 [.agg [.int .i64 a,.int .i64 b,ePred p]]=some (.bool (!rightP p)):=by
 unfold pcF
 rw [goRun_eq _ _ _ _ (by simp [t60])]
 simp [t60,e55,s55,hp]
def rightRows (b:Broker):Bool :=
 risesB (fun x y=>decide (x<y)) b.near && risesB (fun x y=>ltID x y) b.seen && risesB (fun x y:Advert=>ltID x.id y.id) b.adverts && risesB (fun x y:OwnS=>ltID x.id y.id) b.owns && risesB ltE b.entries
def rightB (b:Broker):Bool :=
 rightRows b && !(b.adverts.any fun a=>!rightAdv b a) && !(b.entries.any fun e=>!rightEnt b e) && !(b.owns.any fun o=>!rightP o.pred)
set_option maxRecDepth 8000 in
theorem s15 (t:Tags) (b:Broker) (hs:Sized b) (hp:SizedN b):pcF D t15 [eBroker t b]=some (.bool (rightB b)):=by
 have hs':=hs
 obtain ⟨z1,z2,z3,z4,z5⟩:=hs'
 have q1:=s42 t.near b.near 43 (fun x y=>decide (x<y)) (fun x _ y _ h=>by simp [cInt,e43,s43]) (by omega)
 have q2:=s44 t.seen b.seen 14 (fun x y=>ltID x y) (fun x _ y _ h=>by simp [eID,e14,s14]) (by omega)
 have q3:=s45 t.adverts b.adverts 46 (fun x y=>ltID x.id y.id) (fun x _ y _ h=>by simp [eAdvert,e46,s46]) (by omega)
 have q4:=s47 t.owns b.owns 48 (fun x y=>ltID x.id y.id) (fun x _ y _ h=>by simp [eOwn,e48,s48]) (by omega)
 have q5:=s49 t.entries b.entries 50 ltE (fun x _ y _ h=>by simp [eEntry,e50,s50,ltE]) (by omega)
 have q8:=s59 t.owns b.owns 60 [] (fun o=>!rightP o.pred) (by simp) (fun x hx h=>by simp [eOwn,e60,s60,hp.own x hx]) (by omega)
 unfold pcF
 rw [goRun_eq _ _ _ _ (by simp [t15])]
 simp only [eBroker]
 cases h1:risesB (fun x y=>decide (x<y)) b.near with
 | false =>
  rw [h1]at q1
  simp [t15,e42,q1,rightB,rightRows,h1]
 | true =>
 rw [h1]at q1
 cases h2:risesB (fun x y=>ltID x y) b.seen with
 | false =>
  rw [h2]at q2
  simp [t15,e42,q1,e44,q2,rightB,rightRows,h1,h2]
 | true =>
 rw [h2]at q2
 cases h3:risesB (fun x y:Advert=>ltID x.id y.id) b.adverts with
 | false =>
  rw [h3]at q3
  simp [t15,e42,q1,e44,q2,e45,q3,rightB,rightRows,h1,h2,h3]
 | true =>
 rw [h3]at q3
 cases h4:risesB (fun x y:OwnS=>ltID x.id y.id) b.owns with
 | false =>
  rw [h4]at q4
  simp [t15,e42,q1,e44,q2,e45,q3,e47,q4,rightB,rightRows,h1,h2,h3,h4]
 | true =>
 rw [h4]at q4
 cases h5:risesB ltE b.entries with
 | false =>
  rw [h5]at q5
  simp [t15,e42,q1,e44,q2,e45,q3,e47,q4,e49,q5,rightB,rightRows,h1,h2,h3,h4,h5]
 | true =>
 rw [h5]at q5
 have rs:Rising b.seen:=by have:=rising_of (key:=fun a:ID=>a) h2;simpa using this
 have ra:Rising (b.adverts.map (·.id)):=rising_of (key:=fun a:Advert=>a.id) h3
 have q6:=s52 t.adverts b.adverts 53 [.iptr true [.int .i64 b.me,eL t.near 1 cInt b.near,eL t.adverts 4 eAdvert b.adverts,eL t.seen 2 eID b.seen,eL t.entries 7 eEntry b.entries,eL t.owns 3 eOwn b.owns] 0] (fun a=>!rightAdv b a) (fun x hx=>by
  simp only [List.mem_singleton]at hx;subst hx;exact (flat_iptr _ _ _).mono (by decide)) (fun x hx h=>by
  simp [eAdvert,e53,s53 true t b x hs rs (hp.adv x hx)]) (by omega)
 have q7:=s56 t.entries b.entries 57 [.iptr true [.int .i64 b.me,eL t.near 1 cInt b.near,eL t.adverts 4 eAdvert b.adverts,eL t.seen 2 eID b.seen,eL t.entries 7 eEntry b.entries,eL t.owns 3 eOwn b.owns] 0] (fun a=>!rightEnt b a) (fun x hx=>by
  simp only [List.mem_singleton]at hx;subst hx;exact (flat_iptr _ _ _).mono (by decide)) (fun x hx h=>by
  simp [eEntry,e57,s57 true t b x hs ra (hp.ent x hx)]) (by omega)
 cases h6:b.adverts.any (fun a=>!rightAdv b a)<;>rw [h6]at q6<;>cases h7:b.entries.any (fun a=>!rightEnt b a)<;>rw [h7]at q7<;>cases h8:b.owns.any (fun o=>!rightP o.pred)<;>rw [h8]at q8 <;>
  simp [t15,e42,q1,e44,q2,e45,q3,e47,q4,e49,q5,e52,q6,e56,q7,e59,q8,rightB,rightRows,h1,h2,h3,h4,h5,-List.any_eq_true,-List.any_eq_false,h6,h7,h8]
end Go.Dm.Tc
/-
What functions of the program compute,part 12: an advertisement forgotten.
-/
namespace Go.Dm.Tc
end Go.Dm.Tc
/-
What the reference's functions compute,part 3: an advertisement forgotten.
-/
namespace Go.Dm.Tc
end Go.Dm.Tc
/-
Calls that let go of rows,brought into form;closed runs.
-/
namespace Go.Dm.Tc
def consH:Option (DV×Heap)→(Heap→Option (List DV×Heap))→Option (List DV×Heap)
 | some (v,h),k=>match k h with|some (r,h')=>some (v::r,h')|none=>none
 | none,_=>none
def consL (v:DV):Option (List DV×Heap)→Option (List DV×Heap)
 | some (r,h)=>some (v::r,h)
 | none=>none
def aggH:Option (List DV×Heap)→Option (DV×Heap)
 | some (r,h)=>some (.agg r,h)
 | none=>none
theorem consL_some (v:DV) (r:List DV) (h:Heap):consL v (some (r,h))=some (v::r,h):=_root_.id rfl
theorem aggH_some (r:List DV) (h:Heap):aggH (some (r,h))=some (.agg r,h):=_root_.id rfl
theorem consH_some (v:DV) (h:Heap) (k:Heap→Option (List DV×Heap)):consH (some (v,h)) k=consL v (k h):=by
 simp only [consH];cases k h<;>rfl
theorem mapH_nil (f:Heap→DV→Option (DV×Heap)) (h:Heap):mapH f h []=some ([],h):=_root_.id rfl
theorem mapH_cons (f:Heap→DV→Option (DV×Heap)) (h:Heap) (v:DV) (r:List DV):mapH f h (v::r)=consH (f h v) (fun h1=>mapH f h1 r):=by
 simp only [mapH,consH]
 cases f h v with
 | none=>rfl
 | some p=>rfl
theorem frA_agg (h:Heap) (cs:List DV):freezeA h (.agg cs)=aggH (mapH freeze h cs):=by
 simp only [freezeA];cases mapH freeze h cs<;>rfl
theorem frA_int (h:Heap) (k:IntKind) (n:Int):freezeA h (.int k n)=some (.int k n,h):=_root_.id rfl
theorem frA_eL {α:Type} (h:Heap) (t:Bool) (sz:Nat) (e:α→DV) (xs:List α):freezeA h (eL t sz e xs)=some (eL t sz e xs,h):=by cases xs<;>rfl
theorem frA_pred (h:Heap) (p:Pred):freezeA h (ePred p)=some (ePred p,h):=frA_eL ..
theorem frA_str (h:Heap) (s:List UInt8):freezeA h (.str s)=some (.str s,h):=_root_.id rfl
theorem fr_int (h:Heap) (k:IntKind) (n:Int):freeze h (.int k n)=some (.int k n,h):=_root_.id rfl
theorem fr_bool (h:Heap) (b:Bool):freeze h (.bool b)=some (.bool b,h):=_root_.id rfl
theorem fr_nsl (h:Heap):freeze h .nsl=some (.nsl,h):=_root_.id rfl
theorem fr_eL {α:Type} (h:Heap) (t:Bool) (sz:Nat) (e:α→DV) (xs:List α):freeze h (eL t sz e xs)=some (eL t sz e xs,h):=by cases xs<;>rfl
theorem fr_pred (h:Heap) (p:Pred):freeze h (ePred p)=some (ePred p,h):=fr_eL ..
theorem fr_isl (h:Heap) (t:Bool) (sz:Nat) (xs:List DV):freeze h (.isl t sz xs)=some (.isl t sz xs,h):=_root_.id rfl
attribute [simp] consL_some aggH_some consH_some mapH_nil mapH_cons frA_agg frA_int frA_eL frA_pred frA_str fr_int fr_bool fr_nsl fr_eL fr_pred fr_isl callZ_some
theorem nn1 (n:Nat):(n=n+1)=False:=eq_false (by omega)
theorem mm1 (n:Nat):(n+1=n)=False:=eq_false (by omega)
theorem nn2 (n:Nat):(n=n+1+1)=False:=eq_false (by omega)
theorem mm2 (n:Nat):(n+1+1=n)=False:=eq_false (by omega)
theorem nn3 (n:Nat):(n=n+1+1+1)=False:=eq_false (by omega)
theorem mm3 (n:Nat):(n+1+1+1=n)=False:=eq_false (by omega)
theorem nn4 (n:Nat):(n=n+1+1+1+1)=False:=eq_false (by omega)
theorem mm4 (n:Nat):(n+1+1+1+1=n)=False:=eq_false (by omega)
theorem nn5 (n:Nat):(n=n+1+1+1+1+1)=False:=eq_false (by omega)
theorem mm5 (n:Nat):(n+1+1+1+1+1=n)=False:=eq_false (by omega)
theorem nn6 (n:Nat):(n=n+1+1+1+1+1+1)=False:=eq_false (by omega)
theorem mm6 (n:Nat):(n+1+1+1+1+1+1=n)=False:=eq_false (by omega)
theorem nn7 (n:Nat):(n=n+1+1+1+1+1+1+1)=False:=eq_false (by omega)
theorem mm7 (n:Nat):(n+1+1+1+1+1+1+1=n)=False:=eq_false (by omega)
theorem nn8 (n:Nat):(n=n+1+1+1+1+1+1+1+1)=False:=eq_false (by omega)
theorem mm8 (n:Nat):(n+1+1+1+1+1+1+1+1=n)=False:=eq_false (by omega)
theorem nn9 (n:Nat):(n=n+1+1+1+1+1+1+1+1+1)=False:=eq_false (by omega)
theorem mm9 (n:Nat):(n+1+1+1+1+1+1+1+1+1=n)=False:=eq_false (by omega)
theorem nn10 (n:Nat):(n=n+1+1+1+1+1+1+1+1+1+1)=False:=eq_false (by omega)
theorem mm10 (n:Nat):(n+1+1+1+1+1+1+1+1+1+1=n)=False:=eq_false (by omega)
theorem nn11 (n:Nat):(n=n+1+1+1+1+1+1+1+1+1+1+1)=False:=eq_false (by omega)
theorem mm11 (n:Nat):(n+1+1+1+1+1+1+1+1+1+1+1=n)=False:=eq_false (by omega)
theorem nn12 (n:Nat):(n=n+1+1+1+1+1+1+1+1+1+1+1+1)=False:=eq_false (by omega)
theorem mm12 (n:Nat):(n+1+1+1+1+1+1+1+1+1+1+1+1=n)=False:=eq_false (by omega)
attribute [simp] nn1 mm1 nn2 mm2 nn3 mm3 nn4 mm4 nn5 mm5 nn6 mm6 nn7 mm7 nn8 mm8 nn9 mm9 nn10 mm10 nn11 mm11 nn12 mm12
theorem pc_run {k n:Nat} {df:DFunc} {args ds:List DV} {d:DV} (he:∀args h,fc D k args h=callP D df h (args.mapM (resolve true h deepFuel))) (hd:args.mapM (resolve true heap0 deepFuel)=some ds) (hr:callD D n k args heap0=some (d,heap0)):pcF D df ds=some d:=by
 have h1:fc D k args heap0=some (d,heap0):=fc_some.2 ⟨n,hr⟩
 rw [he,hd,callP_some]at h1
 cases h2:pcF D df ds with
 | none=>rw [h2]at h1;cases h1
 | some x=>rw [h2,callR_some]at h1;injection h1 with h1;injection h1 with h1;rw [h1]
theorem s16:pcF D t16 []=some (.bool true):=pc_run (n:=2000) (args:=[]) e16 rfl (by kernel_rfl)
end Go.Dm.Tc
/-
Plain laws,part 1: predicates made of numbers are right;rows that rise stay so.
-/
namespace Go.Dm.Tc
theorem nameOk_names:∀nm∈namesL,nameOk nm=true∧nm.length≤1000000:=by decide
theorem texts_len:∀i:Nat,(textsL.getD i []).length≤3:=by
 intro i
 by_cases h:i<textsL.length
 ·have:∀x∈textsL,x.length≤3:=by decide
  rw [List.getD_eq_getElem?_getD,List.getElem?_eq_getElem h]
  exact this _ (List.getElem_mem h)
 ·rw [List.getD_eq_getElem?_getD,List.getElem?_eq_none (by omega)]
  simp
theorem mkCons_name (nm:List UInt8) (n:Int):(mkCons nm n).name=nm:=by unfold mkCons;split<;>rfl
theorem mkCons_right {nm:List UInt8} (h:nameOk nm=true) (n:Int):rightOne (mkCons nm n)=true:=by
 unfold mkCons
 split
 ·have b1:=within_bounds (IntKind.i64.wrap (n.tdiv 40)) (show (0:Int)≤9 by decide)
  simp only [rightOne,h,Bool.true_and,if_true]
  simp
  omega
 ·have ht:=texts_len (within (IntKind.i64.wrap (n.tdiv 4)) 0 6).toNat
  split
  ·simp only [rightOne,h,Bool.true_and]
   simp
   simp at ht
   omega
  ·simp only [rightOne,h,Bool.true_and]
   simp
   simp at ht
   omega
theorem rightA_snoc {c:Cons} (hc:rightOne c=true):∀(acc:Pred) (prev:Option (List UInt8)),rightA prev acc=true→(∀d∈acc,Go.Op.bytesLess d.name c.name=true)→(∀n,prev=some n→Go.Op.bytesLess n c.name=true)→rightA prev (acc++[c])=true
 | [],prev,_,_,hp=>by
  simp only [List.nil_append,rightA,hc,Bool.true_and,Bool.and_true]
  cases prev with
  | none=>rfl
  | some n=>exact hp n rfl
 | d::r,prev,h,hd,hp=>by
  simp only [rightA,Bool.and_eq_true]at h
  simp only [List.cons_append,rightA,Bool.and_eq_true]
  exact ⟨h.1,rightA_snoc hc r (some d.name) h.2 (fun x hx=>hd x (List.mem_cons_of_mem _ hx)) (fun n hn=>by injection hn with hn;rw [←hn];exact hd d (List.mem_cons_self ..))⟩
theorem mkPredA_right (has vals:List Int):∀(rest:List (List UInt8)) (i:Nat) (acc:Pred),(∀nm∈rest,nameOk nm=true∧nm.length≤1000000)→rest.Pairwise (fun a b=>Go.Op.bytesLess a b=true)→rightA none acc=true→acc.length≤5 →
  (∀d∈acc,d.name.length≤1000000∧∀nm∈rest,Go.Op.bytesLess d.name nm=true)→rightA none (mkPredA has vals rest i acc)=true∧(mkPredA has vals rest i acc).length≤5∧∀d∈mkPredA has vals rest i acc,d.name.length≤1000000
 | [],_,acc,_,_,h,hl,hd=>⟨h,hl,fun d hx=>(hd d hx).1⟩
 | nm::r,i,acc,hn,hp,h,hl,hd=>by
  rw [List.pairwise_cons]at hp
  simp only [mkPredA]
  split
  ·rename_i hc
   have hr:=mkCons_right (hn nm (List.mem_cons_self ..)).1 (pickI vals i)
   refine mkPredA_right has vals r (i+1) _ (fun x hx=>hn x (List.mem_cons_of_mem _ hx)) hp.2 (rightA_snoc hr acc none h (fun d hx=>by rw [mkCons_name];exact (hd d hx).2 nm (List.mem_cons_self ..)) (fun n e=>by cases e)) (by simp;omega) ?_
   intro d hx
   rcases List.mem_append.1 hx with hx|hx
   ·exact ⟨(hd d hx).1,fun y hy=>(hd d hx).2 y (List.mem_cons_of_mem _ hy)⟩
   ·simp only [List.mem_singleton]at hx
    subst hx
    rw [mkCons_name]
    exact ⟨(hn nm (List.mem_cons_self ..)).2,fun y hy=>hp.1 y hy⟩
  ·exact mkPredA_right has vals r (i+1) acc (fun x hx=>hn x (List.mem_cons_of_mem _ hx)) hp.2 h hl (fun d hx=>⟨(hd d hx).1,fun y hy=>(hd d hx).2 y (List.mem_cons_of_mem _ hy)⟩)
structure PredOk (p:Pred):Prop where
 right:rightP p=true
 names:NamesP p
 len:p.length≤5
theorem mkPred_ok (has vals:List Int):PredOk (mkPred has vals):=by
 obtain ⟨h1,h2,h3⟩:=mkPredA_right has vals namesL 0 [] nameOk_names (by decide) rfl (by simp) (by simp)
 exact ⟨by unfold rightP;rw [show rightA none (mkPred has vals)=true from h1,Bool.true_and];exact decide_eq_true h2,⟨Nat.le_trans h2 (by decide),h3⟩,h2⟩
theorem ins_rising {α:Type} (key:α→ID) (a:α) {l:List α} (h:Rising (l.map key)) (hn:∀b∈l,key b≠key a):Rising ((insAt key a l).map key):=by
 obtain ⟨r1,r2⟩:=rising_low key h (key a)
 have hp:l.Pairwise fun x y=>cmpID (key x) (key y)<0:=by unfold Rising at h;exact List.pairwise_map.1 h
 unfold Rising insAt
 rw [List.pairwise_map,List.pairwise_append,List.pairwise_cons]
 generalize hk:lowIdx (fun b=>cmpID (key b) (key a)) l=k at *
 have hlow:∀b∈l.take k,cmpID (key b) (key a)<0:=by
  intro b hb
  obtain ⟨i,hi,rfl⟩:=List.mem_iff_getElem.1 hb
  rw [List.getElem_take]
  rw [List.length_take]at hi
  exact r1 i (by omega) (by omega)
 have hhigh:∀b∈l.drop k,cmpID (key a) (key b)<0:=by
  intro b hb
  obtain ⟨i,hi,rfl⟩:=List.mem_iff_getElem.1 hb
  rw [List.length_drop]at hi
  rw [List.getElem_drop]
  have:=r2 (k+i) (by omega) (by omega)
  rcases cmpID_tri (key l[k+i]) (key a) with h1|h1|h1
  ·exact absurd h1 this
  ·exact absurd h1 (hn _ (List.getElem_mem _))
  ·exact h1
 refine ⟨hp.sublist (List.take_sublist ..),⟨fun b hb=>hhigh b hb,hp.sublist (List.drop_sublist ..)⟩,?_⟩
 intro x hx y hy
 rcases List.mem_cons.1 hy with rfl|hy
 ·exact hlow x hx
 ·exact cmpID_trans (hlow x hx) (hhigh y hy)
theorem ins_mem {α:Type} (key:α→ID) (a:α) (l:List α) (b:α):b∈insAt key a l↔b=a∨b∈l:=by
 unfold insAt
 rw [List.mem_append,List.mem_cons]
 constructor
 ·rintro (h|h|h)
  ·exact .inr (List.mem_of_mem_take h)
  ·exact .inl h
  ·exact .inr (List.mem_of_mem_drop h)
 ·rintro (h|h)
  ·exact .inr (.inl h)
  ·rw [←List.take_append_drop (lowIdx (fun b=>cmpID (key b) (key a)) l) l,List.mem_append]at h
   exact h.elim .inl fun h=>.inr (.inr h)
theorem ins_len {α:Type} (key:α→ID) (a:α) (l:List α):(insAt key a l).length=l.length+1:=by
 unfold insAt
 rw [List.length_append,List.length_cons,List.length_take,List.length_drop]
 have:=lowIdx_le (fun b=>cmpID (key b) (key a)) l
 omega
end Go.Dm.Tc
/-
Plain laws,part 2: a broker that was told of advertisements alone;sets of IDs as maps.
-/
namespace Go.Dm.Tc
structure InvB (m0:Int) (nr:List Int) (b:Broker) (n:Nat):Prop where
 me:b.me=m0
 near:b.near=nr
 ent:b.entries=[]
 own:b.owns=[]
 ra:Rising (b.adverts.map (·.id))
 rs:Rising b.seen
 la:b.adverts.length≤n
 ls:b.seen.length≤n
 sub:∀a∈b.adverts,a.id∈b.seen
 par:∀a∈b.adverts,a.parent=-1∨a.parent∈nr
 prd:∀a∈b.adverts,PredOk a.pred
section
variable {me:Int} {near:List Int} {b:Broker} {n:Nat}
theorem InvB.start (me:Int) (near:List Int):InvB me near ⟨me,near,[],[],[],[]⟩ 0:=⟨rfl,rfl,rfl,rfl,List.Pairwise.nil,List.Pairwise.nil,Nat.le_refl _,Nat.le_refl _,fun a h=>(by cases h),fun a h=>(by cases h),fun a h=>(by cases h)⟩
theorem InvB.mono {m:Nat} (h:InvB me near b n) (hm:n≤m):InvB me near b m:={h with la:=Nat.le_trans h.la hm,ls:=Nat.le_trans h.ls hm}
theorem InvB.learn (h:InvB me near b n) (a:Advert) (hp:a.parent=-1∨a.parent∈near) (hr:PredOk a.pred):InvB me near (learnB b a).1 (n+1):=by
 unfold learnB
 split
 ·exact h.mono (Nat.le_succ n)
 ·rename_i hm
  refine ⟨h.me,h.near,h.ent,h.own,?_,?_,?_,?_,?_,?_,?_⟩
  ·exact ins_rising (fun a:Advert=>a.id) a h.ra (fun b hb e=>hm (by rw [←e];exact h.sub b hb))
  ·have:=ins_rising (fun x:ID=>x) a.id (l:=b.seen) (by simpa using h.rs) (fun b hb e=>hm (by rw [←e];exact hb))
   simpa using this
  ·simp only [ins_len];exact Nat.succ_le_succ h.la
  ·simp only [ins_len];exact Nat.succ_le_succ h.ls
  ·intro x hx
   rw [ins_mem]at hx ⊢
   rcases hx with rfl|hx
   ·exact .inl rfl
   ·exact .inr (h.sub x hx)
  ·intro x hx
   rw [ins_mem]at hx
   rcases hx with rfl|hx
   ·exact hp
   ·exact h.par x hx
  ·intro x hx
   rw [ins_mem]at hx
   rcases hx with rfl|hx
   ·exact hr
   ·exact h.prd x hx
theorem InvB.sized (h:InvB me near b n) (hn:n≤1000) (hl:near.length≤1000):Sized b:=⟨by rw [h.near];omega,by have:=h.la;omega,by have:=h.ls;omega,by rw [h.ent];decide,by rw [h.own];decide⟩
theorem InvB.sizedP (h:InvB me near b n):SizedP b:=⟨fun a ha=>(h.prd a ha).names.1,fun a ha=>(by rw [h.ent]at ha;cases ha),fun a ha=>(by rw [h.own]at ha;cases ha)⟩
theorem InvB.sizedN (h:InvB me near b n):SizedN b:=⟨fun a ha=>(h.prd a ha).names,fun a ha=>(by rw [h.ent]at ha;cases ha),fun a ha=>(by rw [h.own]at ha;cases ha)⟩
theorem InvB.right (h:InvB me near b n) (hn:risesB (fun x y=>decide (x<y)) near=true):rightB b=true:=by
 unfold rightB rightRows
 rw [h.near,h.ent,h.own,of_rising (key:=fun a:Advert=>a.id) h.ra,show risesB (fun x y=>ltID x y) b.seen=true from of_rising (key:=fun a:ID=>a) (by simpa using h.rs),hn]
 have:(b.adverts.any fun a=>!rightAdv b a)=false:=by
  rw [List.any_eq_false]
  intro a ha
  have h1:=h.sub a ha
  have h2:=h.par a ha
  have h3:=(h.prd a ha).right
  have h4:linkB b a.parent=true:=by
   unfold linkB
   rw [h.near]
   rcases h2 with e|e
   ·simp [e]
   ·simp [e]
  simp [rightAdv,h1,h3,h4]
 rw [this]
 rfl
end
def eSet (ks:List ID):List (DV×DV):=ks.map fun x=>(.agg [.int .i64 x.client,.int .i64 x.seq],.bool true)
def addSet (x:ID) (ks:List ID):List ID:=if x∈ks then ks else ks++[x]
theorem eqBy_id (c d:Int) (y:ID):eqBy (.agg [1,1]) (.agg [.int .i64 c,.int .i64 d]) (.agg [.int .i64 y.client,.int .i64 y.seq])=some (decide ((⟨c,d⟩:ID)=y)):=by
 cases y with|mk a b=>by_cases h1:c=a<;>by_cases h2:d=b<;>simp [h1,h2]
theorem hits_none (c d:Int):∀{ks:List ID},(⟨c,d⟩:ID) ∉ ks→hitsE (.agg [1,1]) (.agg [.int .i64 c,.int .i64 d]) (eSet ks)=some 0
 | [],_=>rfl
 | y::r,h=>by
  have h1:(⟨c,d⟩:ID)≠y:=fun e=>h (by rw [e];exact List.mem_cons_self ..)
  have ih:=hits_none c d (ks:=r) fun hm=>h (List.mem_cons_of_mem _ hm)
  simp only [eSet,List.map_cons,hitsE]
  rw [eqBy_id,show hitsE _ _ (r.map _)=some 0 from ih,decide_eq_false h1]
theorem find_none (c d:Int):∀{ks:List ID} (i:Nat),(⟨c,d⟩:ID) ∉ ks→findE (.agg [1,1]) (.agg [.int .i64 c,.int .i64 d]) (eSet ks) i=some none
 | [],_,_=>rfl
 | y::r,i,h=>by
  have h1:(⟨c,d⟩:ID)≠y:=fun e=>h (by rw [e];exact List.mem_cons_self ..)
  have ih:=find_none c d (ks:=r) (i+1) fun hm=>h (List.mem_cons_of_mem _ hm)
  simp only [eSet,List.map_cons,findE]
  rw [eqBy_id,decide_eq_false h1]
  exact ih
theorem hits_some (c d:Int):∀{ks:List ID},ks.Nodup→(⟨c,d⟩:ID)∈ks→hitsE (.agg [1,1]) (.agg [.int .i64 c,.int .i64 d]) (eSet ks)=some 1
 | [],_,h=>by cases h
 | y::r,hn,h=>by
  rw [List.nodup_cons]at hn
  simp only [eSet,List.map_cons,hitsE]
  by_cases h1:(⟨c,d⟩:ID)=y
  ·rw [eqBy_id,decide_eq_true h1,show hitsE _ _ (r.map _)=some 0 from hits_none c d (by rw [h1];exact hn.1)]
  ·rw [eqBy_id,decide_eq_false h1,show hitsE _ _ (r.map _)=some 1 from hits_some c d hn.2 ((List.mem_cons.1 h).resolve_left h1)]
theorem find_some (c d:Int):∀{ks:List ID} (i:Nat),(⟨c,d⟩:ID)∈ks→∃ j,findE (.agg [1,1]) (.agg [.int .i64 c,.int .i64 d]) (eSet ks) i=some (some (i+j,.bool true))∧ks[j]?=some ⟨c,d⟩
 | [],_,h=>by cases h
 | y::r,i,h=>by
  simp only [eSet,List.map_cons,findE]
  by_cases h1:(⟨c,d⟩:ID)=y
  ·rw [eqBy_id,decide_eq_true h1]
   exact ⟨0,rfl,by rw [h1];rfl⟩
  ·obtain ⟨j,k1,k2⟩:=find_some c d (i+1) ((List.mem_cons.1 h).resolve_left h1)
   rw [eqBy_id,decide_eq_false h1]
   refine ⟨j+1,?_,by simpa using k2⟩
   rw [show i+(j+1)=i+1+j by omega]
   exact k1
theorem lookup_set {ks:List ID} (hn:ks.Nodup) (c d:Int):lookupV (.agg [1,1]) (.bool false) false (.agg [.int .i64 c,.int .i64 d]) (some (eSet ks))=some (.bool (decide ((⟨c,d⟩:ID)∈ks))):=by
 have he:(eqBy (.agg [1,1]) (.agg [.int .i64 c,.int .i64 d]) (.agg [.int .i64 c,.int .i64 d])).isSome=true:=by simp
 simp only [lookupV,he,if_true]
 by_cases h:(⟨c,d⟩:ID)∈ks
 ·obtain ⟨j,k1,_⟩:=find_some c d 0 h
  simp only [findU,hits_some c d hn h,k1,decide_eq_true h]
  rfl
 ·simp only [findU,hits_none c d h,find_none c d 0 h,decide_eq_false h]
  rfl
def entO:Option DO→Option (List (DV×DV))
 | some (.mp es)=>some es
 | _=>none
theorem entriesV_map (h:Heap) (id:Nat):entriesV h (.map id)=entO (h.get id):=by
 simp only [entriesV,entO]
 cases h.get id with
 | none=>rfl
 | some o=>cases o<;>rfl
theorem entO_some (es:List (DV×DV)):entO (some (.mp es))=some es:=_root_.id rfl
def updO (h:Heap) (q:EqT) (id:Nat) (k x:DV):Option DO→Option Heap
 | some (.mp es)=>if h.lim≤id∧(eqBy q k k).isSome=true then
   match findU q k es with
   | some (some (i,_))=>some (h.set id (.mp (es.set i (k,x))))
   | some none=>some (h.set id (.mp (es++[(k,x)])))
   | none=>none
  else none
 | _=>none
theorem updateV_map (h:Heap) (q:EqT) (id:Nat) (k x:DV):updateV h q (.map id) k x=updO h q id k x (h.get id):=by
 simp only [updateV,updO]
 cases h.get id with
 | none=>rfl
 | some o=>cases o<;>rfl
theorem set_self {α:Type}:∀{l:List α} {i:Nat} {a:α},l[i]?=some a→l.set i a=l
 | [],i,a,h=>by simp at h
 | x::r,0,a,h=>by simp at h;simp [h]
 | x::r,i+1,a,h=>by simp at h;simp [set_self h]
theorem upd_set {h:Heap} {id:Nat} {ks:List ID} (hn:ks.Nodup) (hl:h.lim≤id) (c d:Int):updO h (.agg [1,1]) id (.agg [.int .i64 c,.int .i64 d]) (.bool true) (some (.mp (eSet ks)))=some (h.set id (.mp (eSet (addSet ⟨c,d⟩ ks)))):=by
 have he:(eqBy (.agg [1,1]) (.agg [.int .i64 c,.int .i64 d]) (.agg [.int .i64 c,.int .i64 d])).isSome=true:=by simp
 simp only [updO,he,hl,and_self,if_true]
 by_cases hm:(⟨c,d⟩:ID)∈ks
 ·obtain ⟨j,k1,k2⟩:=find_some c d 0 hm
  simp only [findU,hits_some c d hn hm,k1,Nat.zero_add,addSet,if_pos hm]
  have hs:(eSet ks).set j (DV.agg [.int .i64 c,.int .i64 d],DV.bool true)=eSet ks:=set_self (by simp only [eSet,List.getElem?_map,k2];rfl)
  simp only [Nat.le_refl,if_true]
  rw [hs]
 ·simp only [findU,hits_none c d hm,find_none c d 0 hm,addSet,if_neg hm]
  simp [eSet]
theorem addSet_nodup {x:ID} {ks:List ID} (h:ks.Nodup):(addSet x ks).Nodup:=by
 unfold addSet
 split
 ·exact h
 ·rename_i hm
  rw [List.nodup_append]
  exact ⟨h,by simp,fun a ha b hb=>by simp at hb;subst hb;intro e;exact hm (by rw [←e];exact ha)⟩
theorem addSet_mem {x y:ID} {ks:List ID}:y∈addSet x ks↔y=x∨y∈ks:=by
 unfold addSet
 split
 ·rename_i hm
  exact ⟨.inr,fun h=>h.elim (fun e=>by rw [e];exact hm) _root_.id⟩
 ·rw [List.mem_append,List.mem_singleton]
  exact Or.comm
end Go.Dm.Tc
