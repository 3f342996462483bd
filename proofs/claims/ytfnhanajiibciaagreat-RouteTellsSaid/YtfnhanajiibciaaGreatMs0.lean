/-
What functions of the library compute, part 1: searches, comparisons.
-/
import Derived.Test.YtfnhanajiibciaaGreatTcE
import Derived.Test.YtfnhanajiibciaaGreatMm4
set_option linter.all false
namespace Go.Dm.Tc
def idxOf:Option Nat→Int
 | some i=>i
 | none=>-1
theorem l146 (t:Bool) (xs:List Entry) (g:Nat) (cap:List DV) (p:Entry→Bool) (hg:∀x∈xs,∀h,fc D g ([eEntry x]++cap) h=some (.bool (p x),h)) (hl:xs.length≤1000000) :
  ∀(rest:List Entry) (i:Nat) (f:FEnv) (h:Heap),xs.drop i=rest→f 0=eL t 7 eEntry xs→f 1=.func g cap→f 7=.int .i64 xs.length→f 8=.int .i64 i →
  pcOut (fin [.t 4] (run D 19 [.block 0,.seq t146k0] (.loop t146l0) f h))=some (.int .i64 (idxOf ((rest.findIdx? p).map (·+i)))):=by
 intro rest
 induction rest with
 | nil =>
  intro i f h hd h0 h1 h7 h8
  have hi:=drop_nil hd
  have:¬(i<xs.length):=by omega
  rw [run_loop_of t146l0.eq_1]
  simp [t146k0,h7,h8,this,idxOf]
 | cons e rest ih =>
  intro i f h hd h0 h1 h7 h8
  obtain ⟨hi,he,hd'⟩:=drop_at hd
  have hgx:=hg e (by rw [←he];exact List.getElem_mem hi)
  simp only [eEntry,List.cons_append,List.nil_append]at hgx
  rw [run_loop_of t146l0.eq_1]
  cases hp:p e with
  | true=>simp [h0,h1,h7,h8,hi,he,eEntry,hgx,hp,idxOf,List.findIdx?_cons]
  | false =>
   simp [h0,h1,h7,h8,hi,he,eEntry,hgx,hp]
   rw [wrap64 (by omega) (by omega)]
   refine (ih (i+1) _ h hd' ?_ ?_ ?_ ?_).trans ?_<;>simp [h0,h1,h7,List.findIdx?_cons,hp]
   congr 2
   funext q
   simp
   omega
theorem s146 (t:Bool) (xs:List Entry) (g:Nat) (cap:List DV) (p:Entry→Bool) (hg:∀x∈xs,∀h,fc D g ([eEntry x]++cap) h=some (.bool (p x),h)) (hl:xs.length≤1000000) :
  pcF D t146 [eL t 7 eEntry xs,.func g cap]=some (.int .i64 (idxOf (xs.findIdx? p))):=by
 unfold pcF
 rw [goRun_eq _ _ _ _ (by simp [t146])]
 simp [t146]
 refine (l146 t xs g cap p hg hl xs 0 _ _ rfl ?_ ?_ ?_ ?_).trans ?_<;>simp
theorem l149 (t:Bool) (xs:List Advert) (g:Nat) (cap:List DV) (p:Advert→Bool) (hg:∀x∈xs,∀h,fc D g ([eAdvert x]++cap) h=some (.bool (p x),h)) (hl:xs.length≤1000000) :
  ∀(rest:List Advert) (i:Nat) (f:FEnv) (h:Heap),xs.drop i=rest→f 0=eL t 4 eAdvert xs→f 1=.func g cap→f 7=.int .i64 xs.length→f 8=.int .i64 i →
  pcOut (fin [.t 4] (run D 19 [.block 0,.seq t149k0] (.loop t149l0) f h))=some (.int .i64 (idxOf ((rest.findIdx? p).map (·+i)))):=by
 intro rest
 induction rest with
 | nil =>
  intro i f h hd h0 h1 h7 h8
  have hi:=drop_nil hd
  have:¬(i<xs.length):=by omega
  rw [run_loop_of t149l0.eq_1]
  simp [t149k0,h7,h8,this,idxOf]
 | cons e rest ih =>
  intro i f h hd h0 h1 h7 h8
  obtain ⟨hi,he,hd'⟩:=drop_at hd
  have hgx:=hg e (by rw [←he];exact List.getElem_mem hi)
  simp only [eAdvert,List.cons_append,List.nil_append]at hgx
  rw [run_loop_of t149l0.eq_1]
  cases hp:p e with
  | true=>simp [h0,h1,h7,h8,hi,he,eAdvert,hgx,hp,idxOf,List.findIdx?_cons]
  | false =>
   simp [h0,h1,h7,h8,hi,he,eAdvert,hgx,hp]
   rw [wrap64 (by omega) (by omega)]
   refine (ih (i+1) _ h hd' ?_ ?_ ?_ ?_).trans ?_<;>simp [h0,h1,h7,List.findIdx?_cons,hp]
   congr 2
   funext q
   simp
   omega
theorem s149 (t:Bool) (xs:List Advert) (g:Nat) (cap:List DV) (p:Advert→Bool) (hg:∀x∈xs,∀h,fc D g ([eAdvert x]++cap) h=some (.bool (p x),h)) (hl:xs.length≤1000000) :
  pcF D t149 [eL t 4 eAdvert xs,.func g cap]=some (.int .i64 (idxOf (xs.findIdx? p))):=by
 unfold pcF
 rw [goRun_eq _ _ _ _ (by simp [t149])]
 simp [t149]
 refine (l149 t xs g cap p hg hl xs 0 _ _ rfl ?_ ?_ ?_ ?_).trans ?_<;>simp
theorem l152 (t:Bool) (xs:List OwnS) (g:Nat) (cap:List DV) (p:OwnS→Bool) (hg:∀x∈xs,∀h,fc D g ([eOwn x]++cap) h=some (.bool (p x),h)) (hl:xs.length≤1000000) :
  ∀(rest:List OwnS) (i:Nat) (f:FEnv) (h:Heap),xs.drop i=rest→f 0=eL t 3 eOwn xs→f 1=.func g cap→f 7=.int .i64 xs.length→f 8=.int .i64 i →
  pcOut (fin [.t 4] (run D 19 [.block 0,.seq t152k0] (.loop t152l0) f h))=some (.int .i64 (idxOf ((rest.findIdx? p).map (·+i)))):=by
 intro rest
 induction rest with
 | nil =>
  intro i f h hd h0 h1 h7 h8
  have hi:=drop_nil hd
  have:¬(i<xs.length):=by omega
  rw [run_loop_of t152l0.eq_1]
  simp [t152k0,h7,h8,this,idxOf]
 | cons e rest ih =>
  intro i f h hd h0 h1 h7 h8
  obtain ⟨hi,he,hd'⟩:=drop_at hd
  have hgx:=hg e (by rw [←he];exact List.getElem_mem hi)
  simp only [eOwn,List.cons_append,List.nil_append]at hgx
  rw [run_loop_of t152l0.eq_1]
  cases hp:p e with
  | true=>simp [h0,h1,h7,h8,hi,he,eOwn,hgx,hp,idxOf,List.findIdx?_cons]
  | false =>
   simp [h0,h1,h7,h8,hi,he,eOwn,hgx,hp]
   rw [wrap64 (by omega) (by omega)]
   refine (ih (i+1) _ h hd' ?_ ?_ ?_ ?_).trans ?_<;>simp [h0,h1,h7,List.findIdx?_cons,hp]
   congr 2
   funext q
   simp
   omega
theorem s152 (t:Bool) (xs:List OwnS) (g:Nat) (cap:List DV) (p:OwnS→Bool) (hg:∀x∈xs,∀h,fc D g ([eOwn x]++cap) h=some (.bool (p x),h)) (hl:xs.length≤1000000) :
  pcF D t152 [eL t 3 eOwn xs,.func g cap]=some (.int .i64 (idxOf (xs.findIdx? p))):=by
 unfold pcF
 rw [goRun_eq _ _ _ _ (by simp [t152])]
 simp [t152]
 refine (l152 t xs g cap p hg hl xs 0 _ _ rfl ?_ ?_ ?_ ?_).trans ?_<;>simp
theorem idxOf_ge {α:Type} (p:α→Bool) (xs:List α):decide (0≤idxOf (xs.findIdx? p))=xs.any p:=by
 cases h:xs.findIdx? p with
 | none =>
  rw [List.findIdx?_eq_none_iff]at h
  simp only [idxOf]
  have:xs.any p=false:=by rw [List.any_eq_false];exact fun x hx=>by simp [h x hx]
  rw [this];rfl
 | some i =>
  have:=List.findIdx?_eq_some_iff_getElem.1 h
  obtain ⟨hi,hp,_⟩:=this
  have:xs.any p=true:=List.any_eq_true.2 ⟨_,List.getElem_mem hi,hp⟩
  rw [this]
  simp [idxOf]
theorem s106 (t:Bool) (xs:List Entry) (g:Nat) (cap:List DV) (p:Entry→Bool) (hc:∀x∈cap,Flat 20 x) (hg:∀x∈xs,∀h,fc D g ([eEntry x]++cap) h=some (.bool (p x),h)) (hl:xs.length≤1000000) :
  pcF D t106 [eL t 7 eEntry xs,.func g cap]=some (.bool (xs.any p)):=by
 unfold pcF
 rw [goRun_eq _ _ _ _ (by simp [t106])]
 have hf:∀tg h,resolve tg h 200 (.func g cap)=some (.func g cap):=fun tg h=>flat_func (k:=20) hc tg h 200 (by decide)
 simp [t106,e146,hf,-res_func,s146 t xs g cap p hg hl]
 have:=idxOf_ge p xs
 simpa using this
theorem s102 (t:Bool) (xs:List Advert) (g:Nat) (cap:List DV) (p:Advert→Bool) (hc:∀x∈cap,Flat 20 x) (hg:∀x∈xs,∀h,fc D g ([eAdvert x]++cap) h=some (.bool (p x),h)) (hl:xs.length≤1000000) :
  pcF D t102 [eL t 4 eAdvert xs,.func g cap]=some (.bool (xs.any p)):=by
 unfold pcF
 rw [goRun_eq _ _ _ _ (by simp [t102])]
 have hf:∀tg h,resolve tg h 200 (.func g cap)=some (.func g cap):=fun tg h=>flat_func (k:=20) hc tg h 200 (by decide)
 simp [t102,e149,hf,-res_func,s149 t xs g cap p hg hl]
 have:=idxOf_ge p xs
 simpa using this
theorem s109 (t:Bool) (xs:List OwnS) (g:Nat) (cap:List DV) (p:OwnS→Bool) (hc:∀x∈cap,Flat 20 x) (hg:∀x∈xs,∀h,fc D g ([eOwn x]++cap) h=some (.bool (p x),h)) (hl:xs.length≤1000000) :
  pcF D t109 [eL t 3 eOwn xs,.func g cap]=some (.bool (xs.any p)):=by
 unfold pcF
 rw [goRun_eq _ _ _ _ (by simp [t109])]
 have hf:∀tg h,resolve tg h 200 (.func g cap)=some (.func g cap):=fun tg h=>flat_func (k:=20) hc tg h 200 (by decide)
 simp [t109,e152,hf,-res_func,s152 t xs g cap p hg hl]
 have:=idxOf_ge p xs
 simpa using this
theorem l184 (t:Bool) (xs:List Int) (v:Int) (hl:xs.length≤1000000) :
  ∀(rest:List Int) (i:Nat) (f:FEnv) (h:Heap),xs.drop i=rest→f 0=eL t 1 cInt xs→f 1=.int .i64 v→f 7=.int .i64 xs.length→f 8=.int .i64 i →
  pcOut (fin [.t 4] (run D 19 [.block 0,.seq t184k0] (.loop t184l0) f h))=some (.int .i64 (idxOf ((rest.findIdx? (v == ·)).map (·+i)))):=by
 intro rest
 induction rest with
 | nil =>
  intro i f h hd h0 h1 h7 h8
  have hi:=drop_nil hd
  have:¬(i<xs.length):=by omega
  rw [run_loop_of t184l0.eq_1]
  simp [t184k0,h7,h8,this,idxOf]
 | cons e rest ih =>
  intro i f h hd h0 h1 h7 h8
  obtain ⟨hi,he,hd'⟩:=drop_at hd
  rw [run_loop_of t184l0.eq_1]
  by_cases hp:v=e
  ·simp [h0,h1,h7,h8,hi,he,cInt,hp,idxOf,List.findIdx?_cons]
  ·simp [h0,h1,h7,h8,hi,he,cInt,hp]
   rw [wrap64 (by omega) (by omega)]
   refine (ih (i+1) _ h hd' ?_ ?_ ?_ ?_).trans ?_<;>simp [h0,h1,h7,List.findIdx?_cons,hp,cInt]
   congr 2
   funext q
   simp
   omega
theorem s184 (t:Bool) (xs:List Int) (v:Int) (hl:xs.length≤1000000) :
  pcF D t184 [eL t 1 cInt xs,.int .i64 v]=some (.int .i64 (idxOf (xs.findIdx? (v == ·)))):=by
 unfold pcF
 rw [goRun_eq _ _ _ _ (by simp [t184])]
 simp [t184]
 refine (l184 t xs v hl xs 0 _ _ rfl ?_ ?_ ?_ ?_).trans ?_<;>simp
theorem s150 (t:Bool) (xs:List Int) (v:Int) (hl:xs.length≤1000000) :
  pcF D t150 [eL t 1 cInt xs,.int .i64 v]=some (.bool (xs.contains v)):=by
 unfold pcF
 rw [goRun_eq _ _ _ _ (by simp [t150])]
 simp [t150,e184,s184 t xs v hl]
 have:=idxOf_ge (v == ·) xs
 rw [←decide_eq_true_iff (p:=0≤_),this,List.any_eq_true]
 simp
end Go.Dm.Tc
/-
What functions of the library compute,part 2: comparisons by a function,rows that rise,searches by halves.
-/
namespace Go.Dm.Tc
def risesB {α:Type} (p:α→α→Bool):List α→Bool
 | a::b::r=>p a b && risesB p (b::r)
 | _=>true
theorem l91 (t:Bool) (xs:List Int) (g:Nat) (p:Int→Int→Bool) (hg:∀x∈xs,∀y∈xs,∀h,fc D g [cInt x,cInt y] h=some (.bool (p x y),h)) (hl:xs.length≤1000000) :
  ∀(rest:List Int) (a:Int) (i:Nat) (f:FEnv) (h:Heap),xs.drop i=a::rest→f 0=eL t 1 cInt xs→f 1=.func g []→f 5=.int .i64 ((i:Int)+1) →
  pcOut (fin [.t 4] (run D 24 [.block 0,.seq t91k0] (.loop t91l0) f h))=some (.bool (risesB p (a::rest))):=by
 intro rest
 induction rest with
 | nil =>
  intro a i f h hd h0 h1 h5
  obtain ⟨hi,he,hd'⟩:=drop_at hd
  have hi:=drop_nil hd'
  have:¬((i:Int)+1<xs.length):=by omega
  rw [run_loop_of t91l0.eq_1]
  simp [t91k0,h0,h5,this,risesB]
 | cons e rest ih =>
  intro a i f h hd h0 h1 h5
  obtain ⟨hi,he,hd'⟩:=drop_at hd
  obtain ⟨hi',he',hd''⟩:=drop_at hd'
  have hgx:=hg a (by rw [←he];exact List.getElem_mem hi) e (by rw [←he'];exact List.getElem_mem hi')
  simp only [cInt]at hgx
  have hlt:(i:Int)+1<xs.length:=by omega
  have hw:IntKind.i64.wrap (i:Int)=i:=wrap64 (by omega) (by omega)
  rw [run_loop_of t91l0.eq_1]
  cases hp:p a e with
  | true =>
   simp [h0,h1,h5,hi,hi',he,he',cInt,hgx,hp,hlt,hw]
   rw [wrap64 (by omega) (by omega)]
   refine (ih e (i+1) _ _ hd' ?_ ?_ ?_).trans ?_<;>simp [h0,h1,risesB,hp,cInt]
  | false =>
   simp [h0,h1,h5,hi,hi',he,he',cInt,hgx,hp,hlt,hw,risesB]
theorem s91 (t:Bool) (xs:List Int) (g:Nat) (p:Int→Int→Bool) (hg:∀x∈xs,∀y∈xs,∀h,fc D g [cInt x,cInt y] h=some (.bool (p x y),h)) (hl:xs.length≤1000000) :
  pcF D t91 [eL t 1 cInt xs,.func g []]=some (.bool (risesB p xs)):=by
 unfold pcF
 rw [goRun_eq _ _ _ _ (by simp [t91])]
 simp [t91]
 cases xs with
 | nil =>
  rw [run_loop_of t91l0.eq_1]
  simp [t91k0,risesB]
 | cons a r=>refine (l91 t (a::r) g p hg hl r a 0 _ _ rfl ?_ ?_ ?_).trans ?_<;>simp
theorem l93 (t:Bool) (xs:List ID) (g:Nat) (p:ID→ID→Bool) (hg:∀x∈xs,∀y∈xs,∀h,fc D g [eID x,eID y] h=some (.bool (p x y),h)) (hl:xs.length≤1000000) :
  ∀(rest:List ID) (a:ID) (i:Nat) (f:FEnv) (h:Heap),xs.drop i=a::rest→f 0=eL t 2 eID xs→f 1=.func g []→f 5=.int .i64 ((i:Int)+1) →
  pcOut (fin [.t 4] (run D 24 [.block 0,.seq t93k0] (.loop t93l0) f h))=some (.bool (risesB p (a::rest))):=by
 intro rest
 induction rest with
 | nil =>
  intro a i f h hd h0 h1 h5
  obtain ⟨hi,he,hd'⟩:=drop_at hd
  have hi:=drop_nil hd'
  have:¬((i:Int)+1<xs.length):=by omega
  rw [run_loop_of t93l0.eq_1]
  simp [t93k0,h0,h5,this,risesB]
 | cons e rest ih =>
  intro a i f h hd h0 h1 h5
  obtain ⟨hi,he,hd'⟩:=drop_at hd
  obtain ⟨hi',he',hd''⟩:=drop_at hd'
  have hgx:=hg a (by rw [←he];exact List.getElem_mem hi) e (by rw [←he'];exact List.getElem_mem hi')
  simp only [eID]at hgx
  have hlt:(i:Int)+1<xs.length:=by omega
  have hw:IntKind.i64.wrap (i:Int)=i:=wrap64 (by omega) (by omega)
  rw [run_loop_of t93l0.eq_1]
  cases hp:p a e with
  | true =>
   simp [h0,h1,h5,hi,hi',he,he',eID,hgx,hp,hlt,hw]
   rw [wrap64 (by omega) (by omega)]
   refine (ih e (i+1) _ _ hd' ?_ ?_ ?_).trans ?_<;>simp [h0,h1,risesB,hp,eID]
  | false =>
   simp [h0,h1,h5,hi,hi',he,he',eID,hgx,hp,hlt,hw,risesB]
theorem s93 (t:Bool) (xs:List ID) (g:Nat) (p:ID→ID→Bool) (hg:∀x∈xs,∀y∈xs,∀h,fc D g [eID x,eID y] h=some (.bool (p x y),h)) (hl:xs.length≤1000000) :
  pcF D t93 [eL t 2 eID xs,.func g []]=some (.bool (risesB p xs)):=by
 unfold pcF
 rw [goRun_eq _ _ _ _ (by simp [t93])]
 simp [t93]
 cases xs with
 | nil =>
  rw [run_loop_of t93l0.eq_1]
  simp [t93k0,risesB]
 | cons a r=>refine (l93 t (a::r) g p hg hl r a 0 _ _ rfl ?_ ?_ ?_).trans ?_<;>simp
theorem l98 (t:Bool) (xs:List Entry) (g:Nat) (p:Entry→Entry→Bool) (hg:∀x∈xs,∀y∈xs,∀h,fc D g [eEntry x,eEntry y] h=some (.bool (p x y),h)) (hl:xs.length≤1000000) :
  ∀(rest:List Entry) (a:Entry) (i:Nat) (f:FEnv) (h:Heap),xs.drop i=a::rest→f 0=eL t 7 eEntry xs→f 1=.func g []→f 5=.int .i64 ((i:Int)+1) →
  pcOut (fin [.t 4] (run D 24 [.block 0,.seq t98k0] (.loop t98l0) f h))=some (.bool (risesB p (a::rest))):=by
 intro rest
 induction rest with
 | nil =>
  intro a i f h hd h0 h1 h5
  obtain ⟨hi,he,hd'⟩:=drop_at hd
  have hi:=drop_nil hd'
  have:¬((i:Int)+1<xs.length):=by omega
  rw [run_loop_of t98l0.eq_1]
  simp [t98k0,h0,h5,this,risesB]
 | cons e rest ih =>
  intro a i f h hd h0 h1 h5
  obtain ⟨hi,he,hd'⟩:=drop_at hd
  obtain ⟨hi',he',hd''⟩:=drop_at hd'
  have hgx:=hg a (by rw [←he];exact List.getElem_mem hi) e (by rw [←he'];exact List.getElem_mem hi')
  simp only [eEntry]at hgx
  have hlt:(i:Int)+1<xs.length:=by omega
  have hw:IntKind.i64.wrap (i:Int)=i:=wrap64 (by omega) (by omega)
  rw [run_loop_of t98l0.eq_1]
  cases hp:p a e with
  | true =>
   simp [h0,h1,h5,hi,hi',he,he',eEntry,hgx,hp,hlt,hw]
   rw [wrap64 (by omega) (by omega)]
   refine (ih e (i+1) _ _ hd' ?_ ?_ ?_).trans ?_<;>simp [h0,h1,risesB,hp,eEntry]
  | false =>
   simp [h0,h1,h5,hi,hi',he,he',eEntry,hgx,hp,hlt,hw,risesB]
theorem s98 (t:Bool) (xs:List Entry) (g:Nat) (p:Entry→Entry→Bool) (hg:∀x∈xs,∀y∈xs,∀h,fc D g [eEntry x,eEntry y] h=some (.bool (p x y),h)) (hl:xs.length≤1000000) :
  pcF D t98 [eL t 7 eEntry xs,.func g []]=some (.bool (risesB p xs)):=by
 unfold pcF
 rw [goRun_eq _ _ _ _ (by simp [t98])]
 simp [t98]
 cases xs with
 | nil =>
  rw [run_loop_of t98l0.eq_1]
  simp [t98k0,risesB]
 | cons a r=>refine (l98 t (a::r) g p hg hl r a 0 _ _ rfl ?_ ?_ ?_).trans ?_<;>simp
theorem l94 (t:Bool) (xs:List Advert) (g:Nat) (p:Advert→Advert→Bool) (hg:∀x∈xs,∀y∈xs,∀h,fc D g [eAdvert x,eAdvert y] h=some (.bool (p x y),h)) (hl:xs.length≤1000000) :
  ∀(rest:List Advert) (a:Advert) (i:Nat) (f:FEnv) (h:Heap),xs.drop i=a::rest→f 0=eL t 4 eAdvert xs→f 1=.func g []→f 5=.int .i64 ((i:Int)+1) →
  pcOut (fin [.t 4] (run D 24 [.block 0,.seq t94k0] (.loop t94l0) f h))=some (.bool (risesB p (a::rest))):=by
 intro rest
 induction rest with
 | nil =>
  intro a i f h hd h0 h1 h5
  obtain ⟨hi,he,hd'⟩:=drop_at hd
  have hi:=drop_nil hd'
  have:¬((i:Int)+1<xs.length):=by omega
  rw [run_loop_of t94l0.eq_1]
  simp [t94k0,h0,h5,this,risesB]
 | cons e rest ih =>
  intro a i f h hd h0 h1 h5
  obtain ⟨hi,he,hd'⟩:=drop_at hd
  obtain ⟨hi',he',hd''⟩:=drop_at hd'
  have hgx:=hg a (by rw [←he];exact List.getElem_mem hi) e (by rw [←he'];exact List.getElem_mem hi')
  simp only [eAdvert]at hgx
  have hlt:(i:Int)+1<xs.length:=by omega
  have hw:IntKind.i64.wrap (i:Int)=i:=wrap64 (by omega) (by omega)
  rw [run_loop_of t94l0.eq_1]
  cases hp:p a e with
  | true =>
   simp [h0,h1,h5,hi,hi',he,he',eAdvert,hgx,hp,hlt,hw]
   rw [wrap64 (by omega) (by omega)]
   refine (ih e (i+1) _ _ hd' ?_ ?_ ?_).trans ?_<;>simp [h0,h1,risesB,hp,eAdvert]
  | false =>
   simp [h0,h1,h5,hi,hi',he,he',eAdvert,hgx,hp,hlt,hw,risesB]
theorem s94 (t:Bool) (xs:List Advert) (g:Nat) (p:Advert→Advert→Bool) (hg:∀x∈xs,∀y∈xs,∀h,fc D g [eAdvert x,eAdvert y] h=some (.bool (p x y),h)) (hl:xs.length≤1000000) :
  pcF D t94 [eL t 4 eAdvert xs,.func g []]=some (.bool (risesB p xs)):=by
 unfold pcF
 rw [goRun_eq _ _ _ _ (by simp [t94])]
 simp [t94]
 cases xs with
 | nil =>
  rw [run_loop_of t94l0.eq_1]
  simp [t94k0,risesB]
 | cons a r=>refine (l94 t (a::r) g p hg hl r a 0 _ _ rfl ?_ ?_ ?_).trans ?_<;>simp
theorem l96 (t:Bool) (xs:List OwnS) (g:Nat) (p:OwnS→OwnS→Bool) (hg:∀x∈xs,∀y∈xs,∀h,fc D g [eOwn x,eOwn y] h=some (.bool (p x y),h)) (hl:xs.length≤1000000) :
  ∀(rest:List OwnS) (a:OwnS) (i:Nat) (f:FEnv) (h:Heap),xs.drop i=a::rest→f 0=eL t 3 eOwn xs→f 1=.func g []→f 5=.int .i64 ((i:Int)+1) →
  pcOut (fin [.t 4] (run D 24 [.block 0,.seq t96k0] (.loop t96l0) f h))=some (.bool (risesB p (a::rest))):=by
 intro rest
 induction rest with
 | nil =>
  intro a i f h hd h0 h1 h5
  obtain ⟨hi,he,hd'⟩:=drop_at hd
  have hi:=drop_nil hd'
  have:¬((i:Int)+1<xs.length):=by omega
  rw [run_loop_of t96l0.eq_1]
  simp [t96k0,h0,h5,this,risesB]
 | cons e rest ih =>
  intro a i f h hd h0 h1 h5
  obtain ⟨hi,he,hd'⟩:=drop_at hd
  obtain ⟨hi',he',hd''⟩:=drop_at hd'
  have hgx:=hg a (by rw [←he];exact List.getElem_mem hi) e (by rw [←he'];exact List.getElem_mem hi')
  simp only [eOwn]at hgx
  have hlt:(i:Int)+1<xs.length:=by omega
  have hw:IntKind.i64.wrap (i:Int)=i:=wrap64 (by omega) (by omega)
  rw [run_loop_of t96l0.eq_1]
  cases hp:p a e with
  | true =>
   simp [h0,h1,h5,hi,hi',he,he',eOwn,hgx,hp,hlt,hw]
   rw [wrap64 (by omega) (by omega)]
   refine (ih e (i+1) _ _ hd' ?_ ?_ ?_).trans ?_<;>simp [h0,h1,risesB,hp,eOwn]
  | false =>
   simp [h0,h1,h5,hi,hi',he,he',eOwn,hgx,hp,hlt,hw,risesB]
theorem s96 (t:Bool) (xs:List OwnS) (g:Nat) (p:OwnS→OwnS→Bool) (hg:∀x∈xs,∀y∈xs,∀h,fc D g [eOwn x,eOwn y] h=some (.bool (p x y),h)) (hl:xs.length≤1000000) :
  pcF D t96 [eL t 3 eOwn xs,.func g []]=some (.bool (risesB p xs)):=by
 unfold pcF
 rw [goRun_eq _ _ _ _ (by simp [t96])]
 simp [t96]
 cases xs with
 | nil =>
  rw [run_loop_of t96l0.eq_1]
  simp [t96k0,risesB]
 | cons a r=>refine (l96 t (a::r) g p hg hl r a 0 _ _ rfl ?_ ?_ ?_).trans ?_<;>simp
end Go.Dm.Tc
/-
What functions of the library compute,part 3: the search by halves.
-/
namespace Go.Dm.Tc
def lowIdx {α:Type} (cm:α→Int) (xs:List α):Nat:=xs.findIdx fun x=>!decide (cm x<0)
def hitAt {α:Type} (cm:α→Int) (xs:List α):Bool:=match xs[lowIdx cm xs]? with|some x=>decide (cm x=0)|none=>false
theorem lowIdx_le {α:Type} (cm:α→Int) (xs:List α):lowIdx cm xs≤xs.length:=List.findIdx_le_length
theorem lowIdx_eq {α:Type} {cm:α→Int} {xs:List α} {k:Nat} (hk:k≤xs.length) (h1:∀q (hq:q<k),cm (xs[q]'(by omega))<0) (h2:∀(hq:k<xs.length),¬cm xs[k]<0):lowIdx cm xs=k:=by
 unfold lowIdx
 rcases Nat.lt_or_eq_of_le hk with hlt|rfl
 ·rw [List.findIdx_eq hlt]
  refine ⟨by simpa using h2 hlt,fun j hj=>by simpa using h1 j hj⟩
 ·rw [List.findIdx_eq_length]
  intro x hx
  obtain ⟨i,hi,rfl⟩:=List.mem_iff_getElem.1 hx
  simpa using h1 i hi
theorem l139 (t:Bool) (xs:List ID) (c s:Int) (g:Nat) (cap:List DV) (cm:ID→Int) (hg:∀x∈xs,∀h,fc D g ([eID x,.agg [.int .i64 c,.int .i64 s]]++cap) h=some (.int .i64 (cm x),h)) (hl:xs.length≤1000000)
  (hm:∀i j (hi:i<xs.length) (hj:j<xs.length),i≤j→cm xs[j]<0→cm xs[i]<0) (h:Heap) (cp:Option Nat) (hg0:h.get 0=some (.arr 37 2 [.agg [.int .i64 c,.int .i64 s]] cp)) :
  ∀(n i j:Nat) (f:FEnv),j-i=n→i≤j→j≤xs.length→f 0=eL t 2 eID xs→f 2=.func g cap→f 4=.ptr 0 2 0 0→f 8=.int .i64 xs.length→f 9=.int .i64 i→f 10=.int .i64 j →
  (∀q (hq:q<i),(hq':q<xs.length)→cm xs[q]<0)→(∀q (hq:q<xs.length),j≤q→¬cm xs[q]<0) →
  pcOut (fin [.t 6,.t 7] (run D 49 [.block 0,.seq t139k0] (.loop t139l0) f h))=some (.tup [.int .i64 (lowIdx cm xs),.bool (hitAt cm xs)]):=by
 intro n
 induction n using Nat.strongRecOn with
 | ind n ih =>
  intro i j f hn hij hj h0 h2 h4 h8 h9 h10 hlow hhigh
  rw [run_loop_of t139l0.eq_1]
  by_cases hlt:i<j
  ·have hk:(i+j) / 2<xs.length:=by omega
   have hke:xs[(i+j) / 2]?=some xs[(i+j) / 2]:=List.getElem?_eq_getElem hk
   have hgx:=hg xs[(i+j) / 2] (List.getElem_mem hk)
   simp only [eID,List.cons_append,List.nil_append]at hgx
   have w1:IntKind.i64.wrap ((i:Int)+j)=((i:Int)+j):=wrap64 (by omega) (by omega)
   have w2:IntKind.u64.wrap ((i:Int)+j)=((i:Int)+j):=wrapu64 (by omega) (by omega)
   have w3:IntKind.i64.wrap (((i+j) / 2:Nat):Int)=((i+j) / 2:Nat):=wrap64 (by omega) (by omega)
   have w4:IntKind.i64.wrap ((((i+j) / 2:Nat):Int)+1)=((((i+j) / 2:Nat):Int)+1):=wrap64 (by omega) (by omega)
   by_cases hc:cm xs[(i+j) / 2]<0
   ·simp [h0,h2,h4,h8,h9,h10,hlt,hk,hke,hg0,hgx,eID,w1,w2,w3,w4,hc,-Int.natCast_ediv]
    refine ih (j-((i+j) / 2+1)) (by omega) ((i+j) / 2+1) j _ rfl (by omega) hj ?_ ?_ ?_ ?_ ?_ ?_ ?_ hhigh<;>try simp [h0,h2,h4,h8,h10,eID]
    intro q hq hq'
    exact hm q ((i+j) / 2) hq' hk (by omega) hc
   ·simp [h0,h2,h4,h8,h9,h10,hlt,hk,hke,hg0,hgx,eID,w1,w2,w3,w4,hc,-Int.natCast_ediv]
    refine ih ((i+j) / 2-i) (by omega) i ((i+j) / 2) _ rfl (by omega) (by omega) ?_ ?_ ?_ ?_ ?_ ?_ hlow ?_<;>simp [h0,h2,h4,h8,h9,eID]
    intro q hq hq'
    exact Int.not_lt.1 fun hx=>hc (hm ((i+j) / 2) q hk hq hq' hx)
  ·have hij':i=j:=by omega
   subst hij'
   have hlo:lowIdx cm xs=i:=lowIdx_eq hj (fun q hq=>hlow q hq (by omega)) (fun hq=>hhigh i hq (Nat.le_refl i))
   by_cases hi:i<xs.length
   ·have hgx:=hg xs[i] (List.getElem_mem hi)
    simp only [eID,List.cons_append,List.nil_append]at hgx
    have hke:xs[i]?=some xs[i]:=List.getElem?_eq_getElem hi
    simp [t139k0,h0,h2,h4,h8,h9,h10,hi,hke,hg0,hgx,eID,hlo,hitAt,resultsOf]
    rfl
   ·simp [t139k0,h0,h2,h4,h8,h9,h10,hi,hlo,hitAt,resultsOf]
theorem s139 (t:Bool) (xs:List ID) (c s:Int) (g:Nat) (cap:List DV) (cm:ID→Int) (hg:∀x∈xs,∀h,fc D g ([eID x,.agg [.int .i64 c,.int .i64 s]]++cap) h=some (.int .i64 (cm x),h)) (hl:xs.length≤1000000)
  (hm:∀i j (hi:i<xs.length) (hj:j<xs.length),i≤j→cm xs[j]<0→cm xs[i]<0) :
  pcF D t139 [eL t 2 eID xs,.agg [.int .i64 c,.int .i64 s],.func g cap]=some (.tup [.int .i64 (lowIdx cm xs),.bool (hitAt cm xs)]):=by
 unfold pcF
 rw [goRun_eq _ _ _ _ (by simp [t139])]
 simp [t139]
 refine l139 t xs c s g cap cm hg hl hm _ (some 1) (by simp) xs.length 0 xs.length _ (by omega) (by omega) (by omega) ?_ ?_ ?_ ?_ ?_ ?_ ?_ ?_<;>simp
 intro q hq hq'
 omega
theorem l140 (t:Bool) (xs:List Advert) (c s:Int) (g:Nat) (cap:List DV) (cm:Advert→Int) (hg:∀x∈xs,∀h,fc D g ([eAdvert x,.agg [.int .i64 c,.int .i64 s]]++cap) h=some (.int .i64 (cm x),h)) (hl:xs.length≤1000000)
  (hm:∀i j (hi:i<xs.length) (hj:j<xs.length),i≤j→cm xs[j]<0→cm xs[i]<0) (h:Heap) (cp:Option Nat) (hg0:h.get 0=some (.arr 37 2 [.agg [.int .i64 c,.int .i64 s]] cp)) :
  ∀(n i j:Nat) (f:FEnv),j-i=n→i≤j→j≤xs.length→f 0=eL t 4 eAdvert xs→f 2=.func g cap→f 4=.ptr 0 2 0 0→f 8=.int .i64 xs.length→f 9=.int .i64 i→f 10=.int .i64 j →
  (∀q (hq:q<i),(hq':q<xs.length)→cm xs[q]<0)→(∀q (hq:q<xs.length),j≤q→¬cm xs[q]<0) →
  pcOut (fin [.t 6,.t 7] (run D 49 [.block 0,.seq t140k0] (.loop t140l0) f h))=some (.tup [.int .i64 (lowIdx cm xs),.bool (hitAt cm xs)]):=by
 intro n
 induction n using Nat.strongRecOn with
 | ind n ih =>
  intro i j f hn hij hj h0 h2 h4 h8 h9 h10 hlow hhigh
  rw [run_loop_of t140l0.eq_1]
  by_cases hlt:i<j
  ·have hk:(i+j) / 2<xs.length:=by omega
   have hke:xs[(i+j) / 2]?=some xs[(i+j) / 2]:=List.getElem?_eq_getElem hk
   have hgx:=hg xs[(i+j) / 2] (List.getElem_mem hk)
   simp only [eAdvert,List.cons_append,List.nil_append]at hgx
   have w1:IntKind.i64.wrap ((i:Int)+j)=((i:Int)+j):=wrap64 (by omega) (by omega)
   have w2:IntKind.u64.wrap ((i:Int)+j)=((i:Int)+j):=wrapu64 (by omega) (by omega)
   have w3:IntKind.i64.wrap (((i+j) / 2:Nat):Int)=((i+j) / 2:Nat):=wrap64 (by omega) (by omega)
   have w4:IntKind.i64.wrap ((((i+j) / 2:Nat):Int)+1)=((((i+j) / 2:Nat):Int)+1):=wrap64 (by omega) (by omega)
   by_cases hc:cm xs[(i+j) / 2]<0
   ·simp [h0,h2,h4,h8,h9,h10,hlt,hk,hke,hg0,hgx,eAdvert,w1,w2,w3,w4,hc,-Int.natCast_ediv]
    refine ih (j-((i+j) / 2+1)) (by omega) ((i+j) / 2+1) j _ rfl (by omega) hj ?_ ?_ ?_ ?_ ?_ ?_ ?_ hhigh<;>try simp [h0,h2,h4,h8,h10,eAdvert]
    intro q hq hq'
    exact hm q ((i+j) / 2) hq' hk (by omega) hc
   ·simp [h0,h2,h4,h8,h9,h10,hlt,hk,hke,hg0,hgx,eAdvert,w1,w2,w3,w4,hc,-Int.natCast_ediv]
    refine ih ((i+j) / 2-i) (by omega) i ((i+j) / 2) _ rfl (by omega) (by omega) ?_ ?_ ?_ ?_ ?_ ?_ hlow ?_<;>simp [h0,h2,h4,h8,h9,eAdvert]
    intro q hq hq'
    exact Int.not_lt.1 fun hx=>hc (hm ((i+j) / 2) q hk hq hq' hx)
  ·have hij':i=j:=by omega
   subst hij'
   have hlo:lowIdx cm xs=i:=lowIdx_eq hj (fun q hq=>hlow q hq (by omega)) (fun hq=>hhigh i hq (Nat.le_refl i))
   by_cases hi:i<xs.length
   ·have hgx:=hg xs[i] (List.getElem_mem hi)
    simp only [eAdvert,List.cons_append,List.nil_append]at hgx
    have hke:xs[i]?=some xs[i]:=List.getElem?_eq_getElem hi
    simp [t140k0,h0,h2,h4,h8,h9,h10,hi,hke,hg0,hgx,eAdvert,hlo,hitAt,resultsOf]
    rfl
   ·simp [t140k0,h0,h2,h4,h8,h9,h10,hi,hlo,hitAt,resultsOf]
theorem s140 (t:Bool) (xs:List Advert) (c s:Int) (g:Nat) (cap:List DV) (cm:Advert→Int) (hg:∀x∈xs,∀h,fc D g ([eAdvert x,.agg [.int .i64 c,.int .i64 s]]++cap) h=some (.int .i64 (cm x),h)) (hl:xs.length≤1000000)
  (hm:∀i j (hi:i<xs.length) (hj:j<xs.length),i≤j→cm xs[j]<0→cm xs[i]<0) :
  pcF D t140 [eL t 4 eAdvert xs,.agg [.int .i64 c,.int .i64 s],.func g cap]=some (.tup [.int .i64 (lowIdx cm xs),.bool (hitAt cm xs)]):=by
 unfold pcF
 rw [goRun_eq _ _ _ _ (by simp [t140])]
 simp [t140]
 refine l140 t xs c s g cap cm hg hl hm _ (some 1) (by simp) xs.length 0 xs.length _ (by omega) (by omega) (by omega) ?_ ?_ ?_ ?_ ?_ ?_ ?_ ?_<;>simp
 intro q hq hq'
 omega
theorem l154 (t:Bool) (xs:List Entry) (c s:Int) (g:Nat) (cap:List DV) (cm:Entry→Int) (hg:∀x∈xs,∀h,fc D g ([eEntry x,.agg [.int .i64 c,.int .i64 s]]++cap) h=some (.int .i64 (cm x),h)) (hl:xs.length≤1000000)
  (hm:∀i j (hi:i<xs.length) (hj:j<xs.length),i≤j→cm xs[j]<0→cm xs[i]<0) (h:Heap) (cp:Option Nat) (hg0:h.get 0=some (.arr 37 2 [.agg [.int .i64 c,.int .i64 s]] cp)) :
  ∀(n i j:Nat) (f:FEnv),j-i=n→i≤j→j≤xs.length→f 0=eL t 7 eEntry xs→f 2=.func g cap→f 4=.ptr 0 2 0 0→f 8=.int .i64 xs.length→f 9=.int .i64 i→f 10=.int .i64 j →
  (∀q (hq:q<i),(hq':q<xs.length)→cm xs[q]<0)→(∀q (hq:q<xs.length),j≤q→¬cm xs[q]<0) →
  pcOut (fin [.t 6,.t 7] (run D 49 [.block 0,.seq t154k0] (.loop t154l0) f h))=some (.tup [.int .i64 (lowIdx cm xs),.bool (hitAt cm xs)]):=by
 intro n
 induction n using Nat.strongRecOn with
 | ind n ih =>
  intro i j f hn hij hj h0 h2 h4 h8 h9 h10 hlow hhigh
  rw [run_loop_of t154l0.eq_1]
  by_cases hlt:i<j
  ·have hk:(i+j) / 2<xs.length:=by omega
   have hke:xs[(i+j) / 2]?=some xs[(i+j) / 2]:=List.getElem?_eq_getElem hk
   have hgx:=hg xs[(i+j) / 2] (List.getElem_mem hk)
   simp only [eEntry,List.cons_append,List.nil_append]at hgx
   have w1:IntKind.i64.wrap ((i:Int)+j)=((i:Int)+j):=wrap64 (by omega) (by omega)
   have w2:IntKind.u64.wrap ((i:Int)+j)=((i:Int)+j):=wrapu64 (by omega) (by omega)
   have w3:IntKind.i64.wrap (((i+j) / 2:Nat):Int)=((i+j) / 2:Nat):=wrap64 (by omega) (by omega)
   have w4:IntKind.i64.wrap ((((i+j) / 2:Nat):Int)+1)=((((i+j) / 2:Nat):Int)+1):=wrap64 (by omega) (by omega)
   by_cases hc:cm xs[(i+j) / 2]<0
   ·simp [h0,h2,h4,h8,h9,h10,hlt,hk,hke,hg0,hgx,eEntry,w1,w2,w3,w4,hc,-Int.natCast_ediv]
    refine ih (j-((i+j) / 2+1)) (by omega) ((i+j) / 2+1) j _ rfl (by omega) hj ?_ ?_ ?_ ?_ ?_ ?_ ?_ hhigh<;>try simp [h0,h2,h4,h8,h10,eEntry]
    intro q hq hq'
    exact hm q ((i+j) / 2) hq' hk (by omega) hc
   ·simp [h0,h2,h4,h8,h9,h10,hlt,hk,hke,hg0,hgx,eEntry,w1,w2,w3,w4,hc,-Int.natCast_ediv]
    refine ih ((i+j) / 2-i) (by omega) i ((i+j) / 2) _ rfl (by omega) (by omega) ?_ ?_ ?_ ?_ ?_ ?_ hlow ?_<;>simp [h0,h2,h4,h8,h9,eEntry]
    intro q hq hq'
    exact Int.not_lt.1 fun hx=>hc (hm ((i+j) / 2) q hk hq hq' hx)
  ·have hij':i=j:=by omega
   subst hij'
   have hlo:lowIdx cm xs=i:=lowIdx_eq hj (fun q hq=>hlow q hq (by omega)) (fun hq=>hhigh i hq (Nat.le_refl i))
   by_cases hi:i<xs.length
   ·have hgx:=hg xs[i] (List.getElem_mem hi)
    simp only [eEntry,List.cons_append,List.nil_append]at hgx
    have hke:xs[i]?=some xs[i]:=List.getElem?_eq_getElem hi
    simp [t154k0,h0,h2,h4,h8,h9,h10,hi,hke,hg0,hgx,eEntry,hlo,hitAt,resultsOf]
    rfl
   ·simp [t154k0,h0,h2,h4,h8,h9,h10,hi,hlo,hitAt,resultsOf]
theorem s154 (t:Bool) (xs:List Entry) (c s:Int) (g:Nat) (cap:List DV) (cm:Entry→Int) (hg:∀x∈xs,∀h,fc D g ([eEntry x,.agg [.int .i64 c,.int .i64 s]]++cap) h=some (.int .i64 (cm x),h)) (hl:xs.length≤1000000)
  (hm:∀i j (hi:i<xs.length) (hj:j<xs.length),i≤j→cm xs[j]<0→cm xs[i]<0) :
  pcF D t154 [eL t 7 eEntry xs,.agg [.int .i64 c,.int .i64 s],.func g cap]=some (.tup [.int .i64 (lowIdx cm xs),.bool (hitAt cm xs)]):=by
 unfold pcF
 rw [goRun_eq _ _ _ _ (by simp [t154])]
 simp [t154]
 refine l154 t xs c s g cap cm hg hl hm _ (some 1) (by simp) xs.length 0 xs.length _ (by omega) (by omega) (by omega) ?_ ?_ ?_ ?_ ?_ ?_ ?_ ?_<;>simp
 intro q hq hq'
 omega
theorem l162 (t:Bool) (xs:List OwnS) (c s:Int) (g:Nat) (cap:List DV) (cm:OwnS→Int) (hg:∀x∈xs,∀h,fc D g ([eOwn x,.agg [.int .i64 c,.int .i64 s]]++cap) h=some (.int .i64 (cm x),h)) (hl:xs.length≤1000000)
  (hm:∀i j (hi:i<xs.length) (hj:j<xs.length),i≤j→cm xs[j]<0→cm xs[i]<0) (h:Heap) (cp:Option Nat) (hg0:h.get 0=some (.arr 37 2 [.agg [.int .i64 c,.int .i64 s]] cp)) :
  ∀(n i j:Nat) (f:FEnv),j-i=n→i≤j→j≤xs.length→f 0=eL t 3 eOwn xs→f 2=.func g cap→f 4=.ptr 0 2 0 0→f 8=.int .i64 xs.length→f 9=.int .i64 i→f 10=.int .i64 j →
  (∀q (hq:q<i),(hq':q<xs.length)→cm xs[q]<0)→(∀q (hq:q<xs.length),j≤q→¬cm xs[q]<0) →
  pcOut (fin [.t 6,.t 7] (run D 49 [.block 0,.seq t162k0] (.loop t162l0) f h))=some (.tup [.int .i64 (lowIdx cm xs),.bool (hitAt cm xs)]):=by
 intro n
 induction n using Nat.strongRecOn with
 | ind n ih =>
  intro i j f hn hij hj h0 h2 h4 h8 h9 h10 hlow hhigh
  rw [run_loop_of t162l0.eq_1]
  by_cases hlt:i<j
  ·have hk:(i+j) / 2<xs.length:=by omega
   have hke:xs[(i+j) / 2]?=some xs[(i+j) / 2]:=List.getElem?_eq_getElem hk
   have hgx:=hg xs[(i+j) / 2] (List.getElem_mem hk)
   simp only [eOwn,List.cons_append,List.nil_append]at hgx
   have w1:IntKind.i64.wrap ((i:Int)+j)=((i:Int)+j):=wrap64 (by omega) (by omega)
   have w2:IntKind.u64.wrap ((i:Int)+j)=((i:Int)+j):=wrapu64 (by omega) (by omega)
   have w3:IntKind.i64.wrap (((i+j) / 2:Nat):Int)=((i+j) / 2:Nat):=wrap64 (by omega) (by omega)
   have w4:IntKind.i64.wrap ((((i+j) / 2:Nat):Int)+1)=((((i+j) / 2:Nat):Int)+1):=wrap64 (by omega) (by omega)
   by_cases hc:cm xs[(i+j) / 2]<0
   ·simp [h0,h2,h4,h8,h9,h10,hlt,hk,hke,hg0,hgx,eOwn,w1,w2,w3,w4,hc,-Int.natCast_ediv]
    refine ih (j-((i+j) / 2+1)) (by omega) ((i+j) / 2+1) j _ rfl (by omega) hj ?_ ?_ ?_ ?_ ?_ ?_ ?_ hhigh<;>try simp [h0,h2,h4,h8,h10,eOwn]
    intro q hq hq'
    exact hm q ((i+j) / 2) hq' hk (by omega) hc
   ·simp [h0,h2,h4,h8,h9,h10,hlt,hk,hke,hg0,hgx,eOwn,w1,w2,w3,w4,hc,-Int.natCast_ediv]
    refine ih ((i+j) / 2-i) (by omega) i ((i+j) / 2) _ rfl (by omega) (by omega) ?_ ?_ ?_ ?_ ?_ ?_ hlow ?_<;>simp [h0,h2,h4,h8,h9,eOwn]
    intro q hq hq'
    exact Int.not_lt.1 fun hx=>hc (hm ((i+j) / 2) q hk hq hq' hx)
  ·have hij':i=j:=by omega
   subst hij'
   have hlo:lowIdx cm xs=i:=lowIdx_eq hj (fun q hq=>hlow q hq (by omega)) (fun hq=>hhigh i hq (Nat.le_refl i))
   by_cases hi:i<xs.length
   ·have hgx:=hg xs[i] (List.getElem_mem hi)
    simp only [eOwn,List.cons_append,List.nil_append]at hgx
    have hke:xs[i]?=some xs[i]:=List.getElem?_eq_getElem hi
    simp [t162k0,h0,h2,h4,h8,h9,h10,hi,hke,hg0,hgx,eOwn,hlo,hitAt,resultsOf]
    rfl
   ·simp [t162k0,h0,h2,h4,h8,h9,h10,hi,hlo,hitAt,resultsOf]
theorem s162 (t:Bool) (xs:List OwnS) (c s:Int) (g:Nat) (cap:List DV) (cm:OwnS→Int) (hg:∀x∈xs,∀h,fc D g ([eOwn x,.agg [.int .i64 c,.int .i64 s]]++cap) h=some (.int .i64 (cm x),h)) (hl:xs.length≤1000000)
  (hm:∀i j (hi:i<xs.length) (hj:j<xs.length),i≤j→cm xs[j]<0→cm xs[i]<0) :
  pcF D t162 [eL t 3 eOwn xs,.agg [.int .i64 c,.int .i64 s],.func g cap]=some (.tup [.int .i64 (lowIdx cm xs),.bool (hitAt cm xs)]):=by
 unfold pcF
 rw [goRun_eq _ _ _ _ (by simp [t162])]
 simp [t162]
 refine l162 t xs c s g cap cm hg hl hm _ (some 1) (by simp) xs.length 0 xs.length _ (by omega) (by omega) (by omega) ?_ ?_ ?_ ?_ ?_ ?_ ?_ ?_<;>simp
 intro q hq hq'
 omega
end Go.Dm.Tc
/-
What functions of the library compute,part 4: an element put into a row of the call's own.
-/
namespace Go.Dm.Tc
theorem a114 (H:Heap) (n0:Nat) (xs:List Entry) (i:Nat) (x:Entry) (vid vety:Nat) (vcap:Option Nat) (g0:H.get n0=some (.arr 58 7 (xs.map eEntry++[.unk]) none)) (gv:H.get vid=some (.arr vety 7 [eEntry x] vcap)) (hi:i≤xs.length) (hl:xs.length≤1000000) (wf:WF H) (hlim:H.lim≤n0) (hne:vid≠n0) :
  ∃ H',goRun (ev D) t114 [.sl n0 7 0 xs.length,.int .i64 i,.sl vid 7 0 1] H=some (.sl n0 7 0 (xs.length+1),H')∧H'.get n0=some (.arr 58 7 ((xs.take i++x::xs.drop i).map eEntry) none):=by
 have hlt:=get_some_lt g0
 have w1:IntKind.i64.wrap ((xs.length:Int)+1)=(xs.length:Int)+1:=wrap64 (by omega) (by omega)
 rw [goRun_eq _ _ _ _ (by simp [t114])]
 by_cases hin:i=xs.length
 ·subst hin
  simp [t114,g0,gv]
  rw [appendD_in g0 (by simp) hlim (by simp;omega) (by decide) (by simp)]
  simp [get_set wf hlt,splice]
 ·have hin':¬((i:Int)=xs.length):=by omega
  have w2:IntKind.i64.wrap ((i:Int)+1)=(i:Int)+1:=wrap64 (by omega) (by omega)
  have hi1:i+1≤xs.length+1:=by omega
  have hi2:i+1+(xs.length-i)≤xs.length+1:=by omega
  have hi3:i+(xs.length+1-i)≤xs.length+1:=by omega
  have hi4:i≤xs.length+1:=by omega
  have hx:i<(xs.map eEntry).length:=by simp;omega
  have e1:=ins_shift (xs.map eEntry) .unk i hx
  have e2:=ins_put (xs.map eEntry) (eEntry x) i hx
  have hi5:xs.length+1≤min (i+1) xs.length+(xs.length-i):=by omega
  have hi6:i+1≤min (i+1) xs.length+(xs.length-i):=by omega
  simp only [List.length_map]at e1 e2
  simp [t114,g0,gv,hin',hi,w1,w2,e1,e2,hi5,hi6,hi1,hi2,hi3,hi4,e156,overlapsHook,hne,hlim,hlt,get_set wf,get_set wf.set]
  have e3:List.take (xs.length+1-i) [eEntry x]=[eEntry x]:=List.take_of_length_le (by simp;omega)
  rw [e3,e2]
theorem b114 (H:Heap) (n0:Nat) (xs:List Entry) (i:Nat) (x:Entry) (vid vety:Nat) (vcap:Option Nat) (g0:H.get n0=some (.arr 58 7 (xs.map eEntry) (some xs.length))) (gv:H.get vid=some (.arr vety 7 [eEntry x] vcap)) (hi:i≤xs.length) (hl:xs.length≤1000000) (wf:WF H) (hlim:H.lim≤n0) (hne:vid≠n0) :
  ∃ H',goRun (ev D) t114 [.sl n0 7 0 xs.length,.int .i64 i,.sl vid 7 0 1] H=some (.sl H.n 7 0 (xs.length+1),H')∧H'.get H.n=some (.arr 58 7 ((xs.take i++x::xs.drop i).map eEntry) none):=by
 have hlt:=get_some_lt g0
 have hvt:=get_some_lt gv
 have w1:IntKind.i64.wrap ((xs.length:Int)+1)=(xs.length:Int)+1:=wrap64 (by omega) (by omega)
 rw [goRun_eq _ _ _ _ (by simp [t114])]
 by_cases hin:i=xs.length
 ·subst hin
  simp [t114,g0,gv]
  rw [appendD_new g0 (by simp) (by simp) (by simp;omega) (by decide) (by simp)]
  simp
  rw [List.take_of_length_le (by simp)]
 ·have hin':¬((i:Int)=xs.length):=by omega
  have w2:IntKind.i64.wrap ((i:Int)+1)=(i:Int)+1:=wrap64 (by omega) (by omega)
  have w3:IntKind.i64.wrap ((xs.length:Int)+1-i)=((xs.length+1-i:Nat):Int):=by rw [wrap64 (by omega) (by omega)];omega
  have hx:i<(xs.map eEntry).length:=by simp;omega
  have hq:(xs.length:Int)<(xs.length:Int)+1:=by omega
  have hll:H.lim≤H.n:=by omega
  have hz:((xs.length+1-i:Nat):Int)≤140737488355328:=by omega
  have e1:=fun z=>ins_new1 (xs.map eEntry) z (eEntry x) i hx
  have e2:=fun z=>ins_new2 (xs.map eEntry) z (eEntry x) i hx
  have e3:i+(xs.length+1-i)=xs.length+1:=by omega
  have e4:i+(xs.length-i+1)=xs.length+1:=by omega
  have e5:i+1≤xs.length+1:=by omega
  have e6:i+1+(xs.length-i)≤xs.length+1:=by omega
  have e7:i≤xs.length+1:=by omega
  have e8:List.take (xs.length+1-i) [eEntry x]=[eEntry x]:=List.take_of_length_le (by simp;omega)
  have e9:List.take (xs.length-i) (List.drop i (List.map eEntry xs))=List.drop i (List.map eEntry xs):=List.take_of_length_le (by simp)
  simp only [List.length_map]at e1 e2
  simp [t114,g0,gv,hin',hi,w1,w2,w3,hq,hz]
  rw [appendD_new g0 (by simp;omega) (by simp;omega) (by simp;omega) (by decide) (by simp;omega)]
  simp [g0,gv,w2,hi,hlt,hvt,hlim,hll,e3,e4,e5,e6,e7,e1,e2,e8,e9,Nat.ne_of_lt hlt,Nat.ne_of_lt hvt,Nat.min_eq_left hi]
theorem s114 (lo:Nat) (h:Heap) (v:DV) (xs:List Entry) (i:Nat) (x:Entry) (vid vety c:Nat) (ho:Own lo h v 58 7 (xs.map eEntry)) (gv:h.get vid=some (.arr vety 7 [eEntry x] (some c))) (hi:i≤xs.length) (hl:xs.length≤1000000) (wf:WF h) (hlo:lo≤h.n) (hlim:h.lim≤h.n) :
  ∃ v' h',fc D 114 [v,.int .i64 i,.sl vid 7 0 1] h=some (v',h')∧Own lo h' v' 58 7 ((xs.take i++x::xs.drop i).map eEntry)∧Ext lo h h'∧Keep 58 h h':=by
 have hvt:=get_some_lt gv
 rw [e114]
 cases ho with
 | nil hv hx =>
  subst hv
  have hx0:xs=[]:=List.map_eq_nil_iff.1 hx
  subst hx0
  have hi0:i=0:=by simpa using hi
  subst hi0
  refine ⟨.sl h.n 7 0 1,h.push (.arr 58 7 [eEntry x] none),?_,.arr h.n rfl get_push_new hlim hlo,(Ext.refl hlo wf).push,(Keep.refl _ _).push⟩
  simp only [modeRun,t114]
  rw [goRun_eq _ _ _ _ (by simp)]
  simp [gv,sliceV,appendD]
 | arr id hv hg hl1 hi1 =>
  subst hv
  have hlt:=get_some_lt hg
  have hne:vid≠id:=by intro e;subst e;rw [gv]at hg;simp at hg
  have hw:WF (h.set id .dead):=wf.set
  have gv':∀o l,({(h.set id .dead).push o with lim:=l}:Heap).get vid=some (.arr vety 7 [eEntry x] (some c)):=fun o l=>by
   rw [get_lim,get_push,if_neg (by rw [set_n];omega),get_set wf hlt,if_neg hne];exact gv
  have g0:∀o l,({(h.set id .dead).push o with lim:=l}:Heap).get h.n=some o:=fun o l=>by
   rw [get_lim];exact get_push_new
  have hall:((xs.take i++x::xs.drop i).map eEntry).all (below 200 h.n)=true:=by
   rw [List.all_eq_true]
   intro y hy
   obtain ⟨z,_,rfl⟩:=List.mem_map.1 hy
   exact (dep_entry z).belowN (by decide)
  have hd:List.take (xs.length+1) (List.drop 0 ((xs.take i++x::xs.drop i).map eEntry))=(xs.take i++x::xs.drop i).map eEntry:=by
   rw [List.drop_zero,List.take_of_length_le (by simp only [List.length_map,List.length_append,List.length_take,List.length_cons,List.length_drop];omega)]
  have sc1:scnRun (ev D) t114 [.int .i64 i,.sl vid 7 0 1] id 7 0 (xs.map eEntry).length 58 (xs.map eEntry) h 1 none=some ((xs.take i++x::xs.drop i).map eEntry):=by
   obtain ⟨H',k1,k2⟩:=a114 {(h.set id .dead).push (.arr 58 7 (xs.map eEntry++[.unk]) none) with lim:=h.n} h.n xs i x vid vety (some c) (g0 _ _) (gv' _ _) hi hl hw.push (Nat.le_refl _) (by omega)
   simp only [scnRun,List.length_map,List.replicate_one]
   rw [k1]
   have hlen:0+(xs.length+1)≤((xs.take i++x::xs.drop i).map eEntry).length:=by simp;omega
   simp only [settle,k2,true_and,Nat.le_refl]
   rw [hd,if_pos ⟨hlen,hall⟩]
  have sc2:scnRun (ev D) t114 [.int .i64 i,.sl vid 7 0 1] id 7 0 (xs.map eEntry).length 58 (xs.map eEntry) h 0 (some ((xs.map eEntry).length+0))=some ((xs.take i++x::xs.drop i).map eEntry):=by
   obtain ⟨H',k1,k2⟩:=b114 {(h.set id .dead).push (.arr 58 7 (xs.map eEntry) (some xs.length)) with lim:=h.n} h.n xs i x vid vety (some c) (g0 _ _) (gv' _ _) hi hl hw.push (Nat.le_refl _) (by omega)
   simp only [scnRun,List.length_map,List.replicate_zero,List.append_nil,Nat.add_zero]
   rw [k1]
   have hlen:0+(xs.length+1)≤((xs.take i++x::xs.drop i).map eEntry).length:=by simp;omega
   have hn:h.n≤({(h.set id .dead).push (.arr 58 7 (xs.map eEntry) (some xs.length)) with lim:=h.n}:Heap).n:=Nat.le_succ _
   simp only [settle,k2,true_and]
   rw [hd,if_pos ⟨hn,hlen,hall⟩]
  have hsame:sameL ((xs.take i++x::xs.drop i).map eEntry) ((xs.take i++x::xs.drop i).map eEntry)=true:=by
   simp only [sameL,nat_beq_self,Bool.true_and]
   exact all_zip_self fun y hy=>by
    obtain ⟨z,_,rfl⟩:=List.mem_map.1 hy
    exact (dep_entry z).same (by decide)
  refine ⟨.sl h.n 7 0 ((xs.take i++x::xs.drop i).map eEntry).length,(h.set id .dead).push (.arr 58 7 ((xs.take i++x::xs.drop i).map eEntry) none),?_,.arr h.n rfl (by exact get_push_new) hlim hlo,((Ext.refl hlo wf).set hi1 hlt).push,((Keep.refl _ _).set wf hg hlt).push⟩
  simp only [modeRun,show t114.mode=.split from rfl,hg,true_and,hl1,if_true]
  unfold splitRun
  have hk:(List.map visLen [DV.int .i64 (i:Int),DV.sl vid 7 0 1]).foldl (·+·) 0=1:=rfl
  rw [hk,sc1]
  simp only [List.range_one,List.all_cons,List.all_nil,sc2,hsame,Bool.and_self,if_true]
theorem q114 {h:Heap} {v:DV} {i vid:Nat} {A:Option (DV×Heap)} (hA:fc D 114 [v,.int .i64 (i:Int),.sl vid 7 0 1] h=A) (lo:Nat) (xs:List Entry) (x:Entry) {vety c:Nat} (ho:Own lo h v 58 7 (xs.map eEntry)) (gv:h.get vid=some (.arr vety 7 [eEntry x] (some c))) (hi:i≤xs.length) (hl:xs.length≤1000000) (wf:WF h) (hlo:lo≤h.n) (hlim:h.lim≤h.n) :
  ∃ v' h',A=some (v',h')∧Own lo h' v' 58 7 ((xs.take i++x::xs.drop i).map eEntry)∧Ext lo h h'∧Keep 58 h h':=by
 subst hA
 exact s114 lo h v xs i x vid vety c ho gv hi hl wf hlo hlim
theorem a125 (H:Heap) (n0:Nat) (xs:List OwnS) (i:Nat) (x:OwnS) (vid vety:Nat) (vcap:Option Nat) (g0:H.get n0=some (.arr 60 3 (xs.map eOwn++[.unk]) none)) (gv:H.get vid=some (.arr vety 3 [eOwn x] vcap)) (hi:i≤xs.length) (hl:xs.length≤1000000) (wf:WF H) (hlim:H.lim≤n0) (hne:vid≠n0) :
  ∃ H',goRun (ev D) t125 [.sl n0 3 0 xs.length,.int .i64 i,.sl vid 3 0 1] H=some (.sl n0 3 0 (xs.length+1),H')∧H'.get n0=some (.arr 60 3 ((xs.take i++x::xs.drop i).map eOwn) none):=by
 have hlt:=get_some_lt g0
 have w1:IntKind.i64.wrap ((xs.length:Int)+1)=(xs.length:Int)+1:=wrap64 (by omega) (by omega)
 rw [goRun_eq _ _ _ _ (by simp [t125])]
 by_cases hin:i=xs.length
 ·subst hin
  simp [t125,g0,gv]
  rw [appendD_in g0 (by simp) hlim (by simp;omega) (by decide) (by simp)]
  simp [get_set wf hlt,splice]
 ·have hin':¬((i:Int)=xs.length):=by omega
  have w2:IntKind.i64.wrap ((i:Int)+1)=(i:Int)+1:=wrap64 (by omega) (by omega)
  have hi1:i+1≤xs.length+1:=by omega
  have hi2:i+1+(xs.length-i)≤xs.length+1:=by omega
  have hi3:i+(xs.length+1-i)≤xs.length+1:=by omega
  have hi4:i≤xs.length+1:=by omega
  have hx:i<(xs.map eOwn).length:=by simp;omega
  have e1:=ins_shift (xs.map eOwn) .unk i hx
  have e2:=ins_put (xs.map eOwn) (eOwn x) i hx
  have hi5:xs.length+1≤min (i+1) xs.length+(xs.length-i):=by omega
  have hi6:i+1≤min (i+1) xs.length+(xs.length-i):=by omega
  simp only [List.length_map]at e1 e2
  simp [t125,g0,gv,hin',hi,w1,w2,e1,e2,hi5,hi6,hi1,hi2,hi3,hi4,e164,overlapsHook,hne,hlim,hlt,get_set wf,get_set wf.set]
  have e3:List.take (xs.length+1-i) [eOwn x]=[eOwn x]:=List.take_of_length_le (by simp;omega)
  rw [e3,e2]
theorem b125 (H:Heap) (n0:Nat) (xs:List OwnS) (i:Nat) (x:OwnS) (vid vety:Nat) (vcap:Option Nat) (g0:H.get n0=some (.arr 60 3 (xs.map eOwn) (some xs.length))) (gv:H.get vid=some (.arr vety 3 [eOwn x] vcap)) (hi:i≤xs.length) (hl:xs.length≤1000000) (wf:WF H) (hlim:H.lim≤n0) (hne:vid≠n0) :
  ∃ H',goRun (ev D) t125 [.sl n0 3 0 xs.length,.int .i64 i,.sl vid 3 0 1] H=some (.sl H.n 3 0 (xs.length+1),H')∧H'.get H.n=some (.arr 60 3 ((xs.take i++x::xs.drop i).map eOwn) none):=by
 have hlt:=get_some_lt g0
 have hvt:=get_some_lt gv
 have w1:IntKind.i64.wrap ((xs.length:Int)+1)=(xs.length:Int)+1:=wrap64 (by omega) (by omega)
 rw [goRun_eq _ _ _ _ (by simp [t125])]
 by_cases hin:i=xs.length
 ·subst hin
  simp [t125,g0,gv]
  rw [appendD_new g0 (by simp) (by simp) (by simp;omega) (by decide) (by simp)]
  simp
  rw [List.take_of_length_le (by simp)]
 ·have hin':¬((i:Int)=xs.length):=by omega
  have w2:IntKind.i64.wrap ((i:Int)+1)=(i:Int)+1:=wrap64 (by omega) (by omega)
  have w3:IntKind.i64.wrap ((xs.length:Int)+1-i)=((xs.length+1-i:Nat):Int):=by rw [wrap64 (by omega) (by omega)];omega
  have hx:i<(xs.map eOwn).length:=by simp;omega
  have hq:(xs.length:Int)<(xs.length:Int)+1:=by omega
  have hll:H.lim≤H.n:=by omega
  have hz:((xs.length+1-i:Nat):Int)≤140737488355328:=by omega
  have e1:=fun z=>ins_new1 (xs.map eOwn) z (eOwn x) i hx
  have e2:=fun z=>ins_new2 (xs.map eOwn) z (eOwn x) i hx
  have e3:i+(xs.length+1-i)=xs.length+1:=by omega
  have e4:i+(xs.length-i+1)=xs.length+1:=by omega
  have e5:i+1≤xs.length+1:=by omega
  have e6:i+1+(xs.length-i)≤xs.length+1:=by omega
  have e7:i≤xs.length+1:=by omega
  have e8:List.take (xs.length+1-i) [eOwn x]=[eOwn x]:=List.take_of_length_le (by simp;omega)
  have e9:List.take (xs.length-i) (List.drop i (List.map eOwn xs))=List.drop i (List.map eOwn xs):=List.take_of_length_le (by simp)
  simp only [List.length_map]at e1 e2
  simp [t125,g0,gv,hin',hi,w1,w2,w3,hq,hz]
  rw [appendD_new g0 (by simp;omega) (by simp;omega) (by simp;omega) (by decide) (by simp;omega)]
  simp [g0,gv,w2,hi,hlt,hvt,hlim,hll,e3,e4,e5,e6,e7,e1,e2,e8,e9,Nat.ne_of_lt hlt,Nat.ne_of_lt hvt,Nat.min_eq_left hi]
theorem s125 (lo:Nat) (h:Heap) (v:DV) (xs:List OwnS) (i:Nat) (x:OwnS) (vid vety c:Nat) (ho:Own lo h v 60 3 (xs.map eOwn)) (gv:h.get vid=some (.arr vety 3 [eOwn x] (some c))) (hi:i≤xs.length) (hl:xs.length≤1000000) (wf:WF h) (hlo:lo≤h.n) (hlim:h.lim≤h.n) :
  ∃ v' h',fc D 125 [v,.int .i64 i,.sl vid 3 0 1] h=some (v',h')∧Own lo h' v' 60 3 ((xs.take i++x::xs.drop i).map eOwn)∧Ext lo h h'∧Keep 60 h h':=by
 have hvt:=get_some_lt gv
 rw [e125]
 cases ho with
 | nil hv hx =>
  subst hv
  have hx0:xs=[]:=List.map_eq_nil_iff.1 hx
  subst hx0
  have hi0:i=0:=by simpa using hi
  subst hi0
  refine ⟨.sl h.n 3 0 1,h.push (.arr 60 3 [eOwn x] none),?_,.arr h.n rfl get_push_new hlim hlo,(Ext.refl hlo wf).push,(Keep.refl _ _).push⟩
  simp only [modeRun,t125]
  rw [goRun_eq _ _ _ _ (by simp)]
  simp [gv,sliceV,appendD]
 | arr id hv hg hl1 hi1 =>
  subst hv
  have hlt:=get_some_lt hg
  have hne:vid≠id:=by intro e;subst e;rw [gv]at hg;simp at hg
  have hw:WF (h.set id .dead):=wf.set
  have gv':∀o l,({(h.set id .dead).push o with lim:=l}:Heap).get vid=some (.arr vety 3 [eOwn x] (some c)):=fun o l=>by
   rw [get_lim,get_push,if_neg (by rw [set_n];omega),get_set wf hlt,if_neg hne];exact gv
  have g0:∀o l,({(h.set id .dead).push o with lim:=l}:Heap).get h.n=some o:=fun o l=>by
   rw [get_lim];exact get_push_new
  have hall:((xs.take i++x::xs.drop i).map eOwn).all (below 200 h.n)=true:=by
   rw [List.all_eq_true]
   intro y hy
   obtain ⟨z,_,rfl⟩:=List.mem_map.1 hy
   exact (dep_own z).belowN (by decide)
  have hd:List.take (xs.length+1) (List.drop 0 ((xs.take i++x::xs.drop i).map eOwn))=(xs.take i++x::xs.drop i).map eOwn:=by
   rw [List.drop_zero,List.take_of_length_le (by simp only [List.length_map,List.length_append,List.length_take,List.length_cons,List.length_drop];omega)]
  have sc1:scnRun (ev D) t125 [.int .i64 i,.sl vid 3 0 1] id 3 0 (xs.map eOwn).length 60 (xs.map eOwn) h 1 none=some ((xs.take i++x::xs.drop i).map eOwn):=by
   obtain ⟨H',k1,k2⟩:=a125 {(h.set id .dead).push (.arr 60 3 (xs.map eOwn++[.unk]) none) with lim:=h.n} h.n xs i x vid vety (some c) (g0 _ _) (gv' _ _) hi hl hw.push (Nat.le_refl _) (by omega)
   simp only [scnRun,List.length_map,List.replicate_one]
   rw [k1]
   have hlen:0+(xs.length+1)≤((xs.take i++x::xs.drop i).map eOwn).length:=by simp;omega
   simp only [settle,k2,true_and,Nat.le_refl]
   rw [hd,if_pos ⟨hlen,hall⟩]
  have sc2:scnRun (ev D) t125 [.int .i64 i,.sl vid 3 0 1] id 3 0 (xs.map eOwn).length 60 (xs.map eOwn) h 0 (some ((xs.map eOwn).length+0))=some ((xs.take i++x::xs.drop i).map eOwn):=by
   obtain ⟨H',k1,k2⟩:=b125 {(h.set id .dead).push (.arr 60 3 (xs.map eOwn) (some xs.length)) with lim:=h.n} h.n xs i x vid vety (some c) (g0 _ _) (gv' _ _) hi hl hw.push (Nat.le_refl _) (by omega)
   simp only [scnRun,List.length_map,List.replicate_zero,List.append_nil,Nat.add_zero]
   rw [k1]
   have hlen:0+(xs.length+1)≤((xs.take i++x::xs.drop i).map eOwn).length:=by simp;omega
   have hn:h.n≤({(h.set id .dead).push (.arr 60 3 (xs.map eOwn) (some xs.length)) with lim:=h.n}:Heap).n:=Nat.le_succ _
   simp only [settle,k2,true_and]
   rw [hd,if_pos ⟨hn,hlen,hall⟩]
  have hsame:sameL ((xs.take i++x::xs.drop i).map eOwn) ((xs.take i++x::xs.drop i).map eOwn)=true:=by
   simp only [sameL,nat_beq_self,Bool.true_and]
   exact all_zip_self fun y hy=>by
    obtain ⟨z,_,rfl⟩:=List.mem_map.1 hy
    exact (dep_own z).same (by decide)
  refine ⟨.sl h.n 3 0 ((xs.take i++x::xs.drop i).map eOwn).length,(h.set id .dead).push (.arr 60 3 ((xs.take i++x::xs.drop i).map eOwn) none),?_,.arr h.n rfl (by exact get_push_new) hlim hlo,((Ext.refl hlo wf).set hi1 hlt).push,((Keep.refl _ _).set wf hg hlt).push⟩
  simp only [modeRun,show t125.mode=.split from rfl,hg,true_and,hl1,if_true]
  unfold splitRun
  have hk:(List.map visLen [DV.int .i64 (i:Int),DV.sl vid 3 0 1]).foldl (·+·) 0=1:=rfl
  rw [hk,sc1]
  simp only [List.range_one,List.all_cons,List.all_nil,sc2,hsame,Bool.and_self,if_true]
theorem q125 {h:Heap} {v:DV} {i vid:Nat} {A:Option (DV×Heap)} (hA:fc D 125 [v,.int .i64 (i:Int),.sl vid 3 0 1] h=A) (lo:Nat) (xs:List OwnS) (x:OwnS) {vety c:Nat} (ho:Own lo h v 60 3 (xs.map eOwn)) (gv:h.get vid=some (.arr vety 3 [eOwn x] (some c))) (hi:i≤xs.length) (hl:xs.length≤1000000) (wf:WF h) (hlo:lo≤h.n) (hlim:h.lim≤h.n) :
  ∃ v' h',A=some (v',h')∧Own lo h' v' 60 3 ((xs.take i++x::xs.drop i).map eOwn)∧Ext lo h h'∧Keep 60 h h':=by
 subst hA
 exact s125 lo h v xs i x vid vety c ho gv hi hl wf hlo hlim
theorem a195 (H:Heap) (n0:Nat) (xs:List Cons) (i:Nat) (x:Cons) (vid vety:Nat) (vcap:Option Nat) (g0:H.get n0=some (.arr 62 5 (xs.map eCons++[.unk]) none)) (gv:H.get vid=some (.arr vety 5 [eCons x] vcap)) (hi:i≤xs.length) (hl:xs.length≤1000000) (wf:WF H) (hlim:H.lim≤n0) (hne:vid≠n0) :
  ∃ H',goRun (ev D) t195 [.sl n0 5 0 xs.length,.int .i64 i,.sl vid 5 0 1] H=some (.sl n0 5 0 (xs.length+1),H')∧H'.get n0=some (.arr 62 5 ((xs.take i++x::xs.drop i).map eCons) none):=by
 have hlt:=get_some_lt g0
 have w1:IntKind.i64.wrap ((xs.length:Int)+1)=(xs.length:Int)+1:=wrap64 (by omega) (by omega)
 rw [goRun_eq _ _ _ _ (by simp [t195])]
 by_cases hin:i=xs.length
 ·subst hin
  simp [t195,g0,gv]
  rw [appendD_in g0 (by simp) hlim (by simp;omega) (by decide) (by simp)]
  simp [get_set wf hlt,splice]
 ·have hin':¬((i:Int)=xs.length):=by omega
  have w2:IntKind.i64.wrap ((i:Int)+1)=(i:Int)+1:=wrap64 (by omega) (by omega)
  have hi1:i+1≤xs.length+1:=by omega
  have hi2:i+1+(xs.length-i)≤xs.length+1:=by omega
  have hi3:i+(xs.length+1-i)≤xs.length+1:=by omega
  have hi4:i≤xs.length+1:=by omega
  have hx:i<(xs.map eCons).length:=by simp;omega
  have e1:=ins_shift (xs.map eCons) .unk i hx
  have e2:=ins_put (xs.map eCons) (eCons x) i hx
  have hi5:xs.length+1≤min (i+1) xs.length+(xs.length-i):=by omega
  have hi6:i+1≤min (i+1) xs.length+(xs.length-i):=by omega
  simp only [List.length_map]at e1 e2
  simp [t195,g0,gv,hin',hi,w1,w2,e1,e2,hi5,hi6,hi1,hi2,hi3,hi4,e209,overlapsHook,hne,hlim,hlt,get_set wf,get_set wf.set]
  have e3:List.take (xs.length+1-i) [eCons x]=[eCons x]:=List.take_of_length_le (by simp;omega)
  rw [e3,e2]
theorem b195 (H:Heap) (n0:Nat) (xs:List Cons) (i:Nat) (x:Cons) (vid vety:Nat) (vcap:Option Nat) (g0:H.get n0=some (.arr 62 5 (xs.map eCons) (some xs.length))) (gv:H.get vid=some (.arr vety 5 [eCons x] vcap)) (hi:i≤xs.length) (hl:xs.length≤1000000) (wf:WF H) (hlim:H.lim≤n0) (hne:vid≠n0) :
  ∃ H',goRun (ev D) t195 [.sl n0 5 0 xs.length,.int .i64 i,.sl vid 5 0 1] H=some (.sl H.n 5 0 (xs.length+1),H')∧H'.get H.n=some (.arr 62 5 ((xs.take i++x::xs.drop i).map eCons) none):=by
 have hlt:=get_some_lt g0
 have hvt:=get_some_lt gv
 have w1:IntKind.i64.wrap ((xs.length:Int)+1)=(xs.length:Int)+1:=wrap64 (by omega) (by omega)
 rw [goRun_eq _ _ _ _ (by simp [t195])]
 by_cases hin:i=xs.length
 ·subst hin
  simp [t195,g0,gv]
  rw [appendD_new g0 (by simp) (by simp) (by simp;omega) (by decide) (by simp)]
  simp
  rw [List.take_of_length_le (by simp)]
 ·have hin':¬((i:Int)=xs.length):=by omega
  have w2:IntKind.i64.wrap ((i:Int)+1)=(i:Int)+1:=wrap64 (by omega) (by omega)
  have w3:IntKind.i64.wrap ((xs.length:Int)+1-i)=((xs.length+1-i:Nat):Int):=by rw [wrap64 (by omega) (by omega)];omega
  have hx:i<(xs.map eCons).length:=by simp;omega
  have hq:(xs.length:Int)<(xs.length:Int)+1:=by omega
  have hll:H.lim≤H.n:=by omega
  have hz:((xs.length+1-i:Nat):Int)≤140737488355328:=by omega
  have e1:=fun z=>ins_new1 (xs.map eCons) z (eCons x) i hx
  have e2:=fun z=>ins_new2 (xs.map eCons) z (eCons x) i hx
  have e3:i+(xs.length+1-i)=xs.length+1:=by omega
  have e4:i+(xs.length-i+1)=xs.length+1:=by omega
  have e5:i+1≤xs.length+1:=by omega
  have e6:i+1+(xs.length-i)≤xs.length+1:=by omega
  have e7:i≤xs.length+1:=by omega
  have e8:List.take (xs.length+1-i) [eCons x]=[eCons x]:=List.take_of_length_le (by simp;omega)
  have e9:List.take (xs.length-i) (List.drop i (List.map eCons xs))=List.drop i (List.map eCons xs):=List.take_of_length_le (by simp)
  simp only [List.length_map]at e1 e2
  simp [t195,g0,gv,hin',hi,w1,w2,w3,hq,hz]
  rw [appendD_new g0 (by simp;omega) (by simp;omega) (by simp;omega) (by decide) (by simp;omega)]
  simp [g0,gv,w2,hi,hlt,hvt,hlim,hll,e3,e4,e5,e6,e7,e1,e2,e8,e9,Nat.ne_of_lt hlt,Nat.ne_of_lt hvt,Nat.min_eq_left hi]
theorem s195 (lo:Nat) (h:Heap) (v:DV) (xs:List Cons) (i:Nat) (x:Cons) (vid vety c:Nat) (ho:Own lo h v 62 5 (xs.map eCons)) (gv:h.get vid=some (.arr vety 5 [eCons x] (some c))) (hi:i≤xs.length) (hl:xs.length≤1000000) (wf:WF h) (hlo:lo≤h.n) (hlim:h.lim≤h.n) :
  ∃ v' h',fc D 195 [v,.int .i64 i,.sl vid 5 0 1] h=some (v',h')∧Own lo h' v' 62 5 ((xs.take i++x::xs.drop i).map eCons)∧Ext lo h h'∧Keep 62 h h':=by
 have hvt:=get_some_lt gv
 rw [e195]
 cases ho with
 | nil hv hx =>
  subst hv
  have hx0:xs=[]:=List.map_eq_nil_iff.1 hx
  subst hx0
  have hi0:i=0:=by simpa using hi
  subst hi0
  refine ⟨.sl h.n 5 0 1,h.push (.arr 62 5 [eCons x] none),?_,.arr h.n rfl get_push_new hlim hlo,(Ext.refl hlo wf).push,(Keep.refl _ _).push⟩
  simp only [modeRun,t195]
  rw [goRun_eq _ _ _ _ (by simp)]
  simp [gv,sliceV,appendD]
 | arr id hv hg hl1 hi1 =>
  subst hv
  have hlt:=get_some_lt hg
  have hne:vid≠id:=by intro e;subst e;rw [gv]at hg;simp at hg
  have hw:WF (h.set id .dead):=wf.set
  have gv':∀o l,({(h.set id .dead).push o with lim:=l}:Heap).get vid=some (.arr vety 5 [eCons x] (some c)):=fun o l=>by
   rw [get_lim,get_push,if_neg (by rw [set_n];omega),get_set wf hlt,if_neg hne];exact gv
  have g0:∀o l,({(h.set id .dead).push o with lim:=l}:Heap).get h.n=some o:=fun o l=>by
   rw [get_lim];exact get_push_new
  have hall:((xs.take i++x::xs.drop i).map eCons).all (below 200 h.n)=true:=by
   rw [List.all_eq_true]
   intro y hy
   obtain ⟨z,_,rfl⟩:=List.mem_map.1 hy
   exact (dep_cons z).belowN (by decide)
  have hd:List.take (xs.length+1) (List.drop 0 ((xs.take i++x::xs.drop i).map eCons))=(xs.take i++x::xs.drop i).map eCons:=by
   rw [List.drop_zero,List.take_of_length_le (by simp only [List.length_map,List.length_append,List.length_take,List.length_cons,List.length_drop];omega)]
  have sc1:scnRun (ev D) t195 [.int .i64 i,.sl vid 5 0 1] id 5 0 (xs.map eCons).length 62 (xs.map eCons) h 1 none=some ((xs.take i++x::xs.drop i).map eCons):=by
   obtain ⟨H',k1,k2⟩:=a195 {(h.set id .dead).push (.arr 62 5 (xs.map eCons++[.unk]) none) with lim:=h.n} h.n xs i x vid vety (some c) (g0 _ _) (gv' _ _) hi hl hw.push (Nat.le_refl _) (by omega)
   simp only [scnRun,List.length_map,List.replicate_one]
   rw [k1]
   have hlen:0+(xs.length+1)≤((xs.take i++x::xs.drop i).map eCons).length:=by simp;omega
   simp only [settle,k2,true_and,Nat.le_refl]
   rw [hd,if_pos ⟨hlen,hall⟩]
  have sc2:scnRun (ev D) t195 [.int .i64 i,.sl vid 5 0 1] id 5 0 (xs.map eCons).length 62 (xs.map eCons) h 0 (some ((xs.map eCons).length+0))=some ((xs.take i++x::xs.drop i).map eCons):=by
   obtain ⟨H',k1,k2⟩:=b195 {(h.set id .dead).push (.arr 62 5 (xs.map eCons) (some xs.length)) with lim:=h.n} h.n xs i x vid vety (some c) (g0 _ _) (gv' _ _) hi hl hw.push (Nat.le_refl _) (by omega)
   simp only [scnRun,List.length_map,List.replicate_zero,List.append_nil,Nat.add_zero]
   rw [k1]
   have hlen:0+(xs.length+1)≤((xs.take i++x::xs.drop i).map eCons).length:=by simp;omega
   have hn:h.n≤({(h.set id .dead).push (.arr 62 5 (xs.map eCons) (some xs.length)) with lim:=h.n}:Heap).n:=Nat.le_succ _
   simp only [settle,k2,true_and]
   rw [hd,if_pos ⟨hn,hlen,hall⟩]
  have hsame:sameL ((xs.take i++x::xs.drop i).map eCons) ((xs.take i++x::xs.drop i).map eCons)=true:=by
   simp only [sameL,nat_beq_self,Bool.true_and]
   exact all_zip_self fun y hy=>by
    obtain ⟨z,_,rfl⟩:=List.mem_map.1 hy
    exact (dep_cons z).same (by decide)
  refine ⟨.sl h.n 5 0 ((xs.take i++x::xs.drop i).map eCons).length,(h.set id .dead).push (.arr 62 5 ((xs.take i++x::xs.drop i).map eCons) none),?_,.arr h.n rfl (by exact get_push_new) hlim hlo,((Ext.refl hlo wf).set hi1 hlt).push,((Keep.refl _ _).set wf hg hlt).push⟩
  simp only [modeRun,show t195.mode=.split from rfl,hg,true_and,hl1,if_true]
  unfold splitRun
  have hk:(List.map visLen [DV.int .i64 (i:Int),DV.sl vid 5 0 1]).foldl (·+·) 0=1:=rfl
  rw [hk,sc1]
  simp only [List.range_one,List.all_cons,List.all_nil,sc2,hsame,Bool.and_self,if_true]
theorem q195 {h:Heap} {v:DV} {i vid:Nat} {A:Option (DV×Heap)} (hA:fc D 195 [v,.int .i64 (i:Int),.sl vid 5 0 1] h=A) (lo:Nat) (xs:List Cons) (x:Cons) {vety c:Nat} (ho:Own lo h v 62 5 (xs.map eCons)) (gv:h.get vid=some (.arr vety 5 [eCons x] (some c))) (hi:i≤xs.length) (hl:xs.length≤1000000) (wf:WF h) (hlo:lo≤h.n) (hlim:h.lim≤h.n) :
  ∃ v' h',A=some (v',h')∧Own lo h' v' 62 5 ((xs.take i++x::xs.drop i).map eCons)∧Ext lo h h'∧Keep 62 h h':=by
 subst hA
 exact s195 lo h v xs i x vid vety c ho gv hi hl wf hlo hlim
end Go.Dm.Tc
/-
What functions of the statements' books compute: are two rows the same?
-/
namespace Go.Dm.Tc
theorem id_ne {x y:ID} (h:x≠y):(x.client == y.client && x.seq == y.seq)=false:=by
 obtain ⟨a,b⟩:=x
 obtain ⟨c,d⟩:=y
 simp only [ne_eq,ID.mk.injEq,not_and]at h
 by_cases h1:a=c
 ·simp [h1,h h1]
 ·simp [h1]
theorem l80 (t u:Bool) (xs ys:List Int) (hl:xs.length≤1000000) (hxy:xs.length=ys.length) :
  ∀(rest rest':List Int) (i:Nat) (f:FEnv) (h:Heap),xs.drop i=rest→ys.drop i=rest'→f 0=eL t 1 cInt xs→f 1=eL u 1 cInt ys→f 5=.int .i64 i →
  pcOut (fin [.t 4] (run D 26 [.block 0,.seq t80k0] (.loop t80l0) f h))=some (.bool (decide (rest=rest'))):=by
 intro rest
 induction rest with
 | nil =>
  intro rest' i f h hd hd1 h0 h1 h5
  have hi:=drop_nil hd
  have:¬(i<xs.length):=by omega
  have hr:rest'=[]:=by rw [←hd1];exact List.drop_eq_nil_of_le (by omega)
  subst hr
  rw [run_loop_of t80l0.eq_1]
  simp [t80k0,h0,h5,this]
 | cons e rest ih =>
  intro rest' i f h hd hd1 h0 h1 h5
  obtain ⟨hi,he,hd'⟩:=drop_at hd
  cases rest' with
  | nil=>have:=drop_nil hd1;omega
  | cons e' rest' =>
   obtain ⟨hi',he',hd1'⟩:=drop_at hd1
   rw [run_loop_of t80l0.eq_1]
   by_cases hp:e=e'
   ·subst hp
    simp [h0,h1,h5,hi,hi',he,he',cInt]
    rw [wrap64 (by omega) (by omega)]
    refine (ih rest' (i+1) _ h hd' hd1' ?_ ?_ ?_).trans ?_<;>simp [h0,h1,cInt]
   ·have hp':=hp
    first
     | rw [ID.mk.injEq]at hp'
     | (cases e;cases e';simp only [ID.mk.injEq,Cons.mk.injEq,not_and]at hp')
     | (cases e;cases e';rename_i v _ v';cases v;cases v';simp only [Att.mk.injEq,Val.mk.injEq,not_and]at hp')
     | skip
    simp [h0,h1,h5,hi,hi',he,he',cInt,hp,hp',-not_and]
    try (split<;>simp_all)
theorem s80 (t u:Bool) (xs ys:List Int) (hl:xs.length≤1000000) :
  pcF D t80 [eL t 1 cInt xs,eL u 1 cInt ys]=some (.bool (decide (xs=ys))):=by
 unfold pcF
 rw [goRun_eq _ _ _ _ (by simp [t80])]
 by_cases hxy:xs.length=ys.length
 ·simp [t80,hxy]
  refine (l80 t u xs ys hl hxy xs ys 0 _ _ rfl rfl ?_ ?_ ?_).trans ?_<;>simp [hxy]
 ·have:xs≠ys:=fun h=>hxy (by rw [h])
  have h2:¬((xs.length:Int)=ys.length):=by omega
  simp [t80,h2,this]
theorem l81 (t u:Bool) (xs ys:List ID) (hl:xs.length≤1000000) (hxy:xs.length=ys.length) :
  ∀(rest rest':List ID) (i:Nat) (f:FEnv) (h:Heap),xs.drop i=rest→ys.drop i=rest'→f 0=eL t 2 eID xs→f 1=eL u 2 eID ys→f 5=.int .i64 i →
  pcOut (fin [.t 4] (run D 26 [.block 0,.seq t81k0] (.loop t81l0) f h))=some (.bool (decide (rest=rest'))):=by
 intro rest
 induction rest with
 | nil =>
  intro rest' i f h hd hd1 h0 h1 h5
  have hi:=drop_nil hd
  have:¬(i<xs.length):=by omega
  have hr:rest'=[]:=by rw [←hd1];exact List.drop_eq_nil_of_le (by omega)
  subst hr
  rw [run_loop_of t81l0.eq_1]
  simp [t81k0,h0,h5,this]
 | cons e rest ih =>
  intro rest' i f h hd hd1 h0 h1 h5
  obtain ⟨hi,he,hd'⟩:=drop_at hd
  cases rest' with
  | nil=>have:=drop_nil hd1;omega
  | cons e' rest' =>
   obtain ⟨hi',he',hd1'⟩:=drop_at hd1
   rw [run_loop_of t81l0.eq_1]
   by_cases hp:e=e'
   ·subst hp
    simp [h0,h1,h5,hi,hi',he,he',eID]
    rw [wrap64 (by omega) (by omega)]
    refine (ih rest' (i+1) _ h hd' hd1' ?_ ?_ ?_).trans ?_<;>simp [h0,h1,eID]
   ·have hp':=hp
    first
     | rw [ID.mk.injEq]at hp'
     | (cases e;cases e';simp only [ID.mk.injEq,Cons.mk.injEq,not_and]at hp')
     | (cases e;cases e';rename_i v _ v';cases v;cases v';simp only [Att.mk.injEq,Val.mk.injEq,not_and]at hp')
     | skip
    simp [h0,h1,h5,hi,hi',he,he',eID,hp,hp',-not_and]
    try (split<;>simp_all)
theorem s81 (t u:Bool) (xs ys:List ID) (hl:xs.length≤1000000) :
  pcF D t81 [eL t 2 eID xs,eL u 2 eID ys]=some (.bool (decide (xs=ys))):=by
 unfold pcF
 rw [goRun_eq _ _ _ _ (by simp [t81])]
 by_cases hxy:xs.length=ys.length
 ·simp [t81,hxy]
  refine (l81 t u xs ys hl hxy xs ys 0 _ _ rfl rfl ?_ ?_ ?_).trans ?_<;>simp [hxy]
 ·have:xs≠ys:=fun h=>hxy (by rw [h])
  have h2:¬((xs.length:Int)=ys.length):=by omega
  simp [t81,h2,this]
theorem l48 (t u:Bool) (xs ys:List Cons) (hl:xs.length≤1000000) (hxy:xs.length=ys.length) :
  ∀(rest rest':List Cons) (i:Nat) (f:FEnv) (h:Heap),xs.drop i=rest→ys.drop i=rest'→f 0=eL t 5 eCons xs→f 1=eL u 5 eCons ys→f 5=.int .i64 i →
  pcOut (fin [.t 4] (run D 26 [.block 0,.seq t48k0] (.loop t48l0) f h))=some (.bool (decide (rest=rest'))):=by
 intro rest
 induction rest with
 | nil =>
  intro rest' i f h hd hd1 h0 h1 h5
  have hi:=drop_nil hd
  have:¬(i<xs.length):=by omega
  have hr:rest'=[]:=by rw [←hd1];exact List.drop_eq_nil_of_le (by omega)
  subst hr
  rw [run_loop_of t48l0.eq_1]
  simp [t48k0,h0,h5,this]
 | cons e rest ih =>
  intro rest' i f h hd hd1 h0 h1 h5
  obtain ⟨hi,he,hd'⟩:=drop_at hd
  cases rest' with
  | nil=>have:=drop_nil hd1;omega
  | cons e' rest' =>
   obtain ⟨hi',he',hd1'⟩:=drop_at hd1
   rw [run_loop_of t48l0.eq_1]
   by_cases hp:e=e'
   ·subst hp
    simp [h0,h1,h5,hi,hi',he,he',eCons]
    rw [wrap64 (by omega) (by omega)]
    refine (ih rest' (i+1) _ h hd' hd1' ?_ ?_ ?_).trans ?_<;>simp [h0,h1,eCons]
   ·have hp':=hp
    first
     | rw [ID.mk.injEq]at hp'
     | (cases e;cases e';simp only [ID.mk.injEq,Cons.mk.injEq,not_and]at hp')
     | (cases e;cases e';rename_i v _ v';cases v;cases v';simp only [Att.mk.injEq,Val.mk.injEq,not_and]at hp')
     | skip
    simp [h0,h1,h5,hi,hi',he,he',eCons,hp,hp',-not_and]
    try (split<;>simp_all)
theorem s48 (t u:Bool) (xs ys:List Cons) (hl:xs.length≤1000000) :
  pcF D t48 [eL t 5 eCons xs,eL u 5 eCons ys]=some (.bool (decide (xs=ys))):=by
 unfold pcF
 rw [goRun_eq _ _ _ _ (by simp [t48])]
 by_cases hxy:xs.length=ys.length
 ·simp [t48,hxy]
  refine (l48 t u xs ys hl hxy xs ys 0 _ _ rfl rfl ?_ ?_ ?_).trans ?_<;>simp [hxy]
 ·have:xs≠ys:=fun h=>hxy (by rw [h])
  have h2:¬((xs.length:Int)=ys.length):=by omega
  simp [t48,h2,this]
theorem l169 (t u:Bool) (xs ys:List Att) (hl:xs.length≤1000000) (hxy:xs.length=ys.length) :
  ∀(rest rest':List Att) (i:Nat) (f:FEnv) (h:Heap),xs.drop i=rest→ys.drop i=rest'→f 0=eL t 4 eAtt xs→f 1=eL u 4 eAtt ys→f 5=.int .i64 i →
  pcOut (fin [.t 4] (run D 26 [.block 0,.seq t169k0] (.loop t169l0) f h))=some (.bool (decide (rest=rest'))):=by
 intro rest
 induction rest with
 | nil =>
  intro rest' i f h hd hd1 h0 h1 h5
  have hi:=drop_nil hd
  have:¬(i<xs.length):=by omega
  have hr:rest'=[]:=by rw [←hd1];exact List.drop_eq_nil_of_le (by omega)
  subst hr
  rw [run_loop_of t169l0.eq_1]
  simp [t169k0,h0,h5,this]
 | cons e rest ih =>
  intro rest' i f h hd hd1 h0 h1 h5
  obtain ⟨hi,he,hd'⟩:=drop_at hd
  cases rest' with
  | nil=>have:=drop_nil hd1;omega
  | cons e' rest' =>
   obtain ⟨hi',he',hd1'⟩:=drop_at hd1
   rw [run_loop_of t169l0.eq_1]
   by_cases hp:e=e'
   ·subst hp
    simp [h0,h1,h5,hi,hi',he,he',eAtt]
    rw [wrap64 (by omega) (by omega)]
    refine (ih rest' (i+1) _ h hd' hd1' ?_ ?_ ?_).trans ?_<;>simp [h0,h1,eAtt]
   ·have hp':=hp
    first
     | rw [ID.mk.injEq]at hp'
     | (cases e;cases e';simp only [ID.mk.injEq,Cons.mk.injEq,not_and]at hp')
     | (cases e;cases e';rename_i v _ v';cases v;cases v';simp only [Att.mk.injEq,Val.mk.injEq,not_and]at hp')
     | skip
    simp [h0,h1,h5,hi,hi',he,he',eAtt,hp,hp',-not_and]
    try (split<;>simp_all)
theorem s169 (t u:Bool) (xs ys:List Att) (hl:xs.length≤1000000) :
  pcF D t169 [eL t 4 eAtt xs,eL u 4 eAtt ys]=some (.bool (decide (xs=ys))):=by
 unfold pcF
 rw [goRun_eq _ _ _ _ (by simp [t169])]
 by_cases hxy:xs.length=ys.length
 ·simp [t169,hxy]
  refine (l169 t u xs ys hl hxy xs ys 0 _ _ rfl rfl ?_ ?_ ?_).trans ?_<;>simp [hxy]
 ·have:xs≠ys:=fun h=>hxy (by rw [h])
  have h2:¬((xs.length:Int)=ys.length):=by omega
  simp [t169,h2,this]
end Go.Dm.Tc
/-
What functions of the library compute,part 6: an element taken out of a row of the call's own;elements taken out by a function.
-/
namespace Go.Dm.Tc
def lenOf:DV→Option Nat
 | .nsl=>some 0
 | .sl _ _ _ len=>some len
 | .isl _ _ xs=>some xs.length
 | _=>none
def slice3V (x lo hi mx:DV):Option DV :=
 match lenOf x with
 | some len=>match boundV (some mx) 0 len with
  | some m=>match boundV (some hi) 0 m with
   | some b=>match boundV (some lo) 0 b with
    | some _=>some .unk
    | none=>none
   | none=>none
  | none=>none
 | none=>none
def clearV (h:Heap) (sz:Nat) (z x:DV):Option (DV×Heap) :=
 match x with
 | .nsl=>some (.tup [],h)
 | .isl _ _ []=>some (.tup [],h)
 | .sl id sz' off len=>if len=0 then some (.tup [],h) else match copyD h sz (.sl id sz' off len) (List.replicate len z) with|some (_,h')=>some (.tup [],h')|none=>none
 | _=>none
theorem on_slice3 (c:Nat→List DV→Heap→Option (DV×Heap)) (h:Heap) (env:Env) (x lo hi mx:Opd):oneOp c (.slice3 x lo hi mx) env h=callR h (slice3V (x.eval env) (lo.eval env) (hi.eval env) (mx.eval env)):=by
 simp only [oneOp,stepOp,slice3V,bound_eq,Option.map_some]
 cases x.eval env<;>try rfl
 all_goals
  simp only [lenOf]
  generalize boundV (some (mx.eval env)) 0 _=A
  cases A with
  | none=>rfl
  | some m =>
   simp only
   cases boundV (some (hi.eval env)) 0 m with
   | none=>rfl
   | some b =>
    simp only
    cases boundV (some (lo.eval env)) 0 b with
    | none=>rfl
    | some a=>rfl
theorem on_clear (c:Nat→List DV→Heap→Option (DV×Heap)) (h:Heap) (env:Env) (sz:Nat) (z:DV) (x:Opd):oneOp c (.clear sz z x) env h=clearV h sz z (x.eval env):=by
 simp only [oneOp,stepOp,clearV]
 cases x.eval env<;>rfl
theorem slice3V_sl {id sz off len lo hi:Nat} (h1:lo≤hi) (h2:hi≤len):slice3V (.sl id sz off len) (.int .i64 (lo:Int)) (.int .i64 (hi:Int)) (.int .i64 (len:Int))=some .unk:=by
 simp only [slice3V,lenOf]
 rw [boundV_nat _ _ _ _ (Nat.le_refl _)]
 simp only
 rw [boundV_nat _ _ _ _ h2]
 simp only
 rw [boundV_nat _ _ _ _ h1]
theorem clearV_sl {h:Heap} {id ety sz off len:Nat} {xs:List DV} {cap:Option Nat} {z:DV} (hg:h.get id=some (.arr ety sz xs cap)) (hl:off+len≤xs.length) (hlim:h.lim≤id) (h0:len≠0) :
  clearV h sz z (.sl id sz off len)=some (.tup [],h.set id (.arr ety sz (splice xs (List.replicate len z) off) cap)):=by
 simp [clearV,h0,hg,hl,hlim]
theorem del_in (X:List DV) (i:Nat) (hi:i+1<X.length):splice X (X.drop (i+1)) i=(X.take i++X.drop (i+1))++X.drop (X.length-1):=by
 unfold splice
 rw [List.length_drop]
 congr 2
 omega
theorem splice_end (A B ys:List DV):splice (A++B) ys A.length=A++(ys++B.drop ys.length):=by
 unfold splice
 rw [List.take_left' rfl,List.append_assoc,List.drop_append]
 simp
theorem s116 (lo:Nat) (h:Heap) (v:DV) (xs:List Entry) (i:Nat) (ho:Own lo h v 58 7 (xs.map eEntry)) (hi:i<xs.length) (hl:xs.length≤1000000) (wf:WF h) (hlo:lo≤h.n) :
  ∃ v' h',fc D 116 [v,.int .i64 (i:Int),.int .i64 ((i:Int)+1)] h=some (v',h')∧OwnR lo h' v' 58 7 ((xs.take i++xs.drop (i+1)).map eEntry)∧Ext lo h h'∧Keep 58 h h':=by
 rw [e116]
 cases ho with
 | nil hv hx =>
  have hx0:xs=[]:=List.map_eq_nil_iff.1 hx
  subst hx0
  simp at hi
 | arr id hv hg hl1 hi1 =>
  subst hv
  have hlt:=get_some_lt hg
  have hb3:slice3V (.sl id 7 0 xs.length) (.int .i64 (i:Int)) (.int .i64 ((i:Int)+1)) (.int .i64 (xs.length:Int))=some .unk:=slice3V_sl (hi:=i+1) (by omega) (by omega)
  have hne:¬((i:Int)=(i:Int)+1):=by omega
  rw [goRun_eq _ _ _ _ (by simp [t116])]
  by_cases hend:i+1=xs.length
  ·have h1:i+1≤xs.length:=by omega
   have e2:xs.length-(i+1)=0:=by omega
   have e3:List.drop (i+1) xs=[]:=List.drop_eq_nil_of_le (by omega)
   have e4:xs.length-i=1:=by omega
   have hn0:(i:Int)≤(xs.length:Int):=by omega
   have hcl:∀z,clearV h 7 z (.sl id 7 i 1)=some (.tup [],h.set id (.arr 58 7 (splice (xs.map eEntry) [z] i) none)):=fun z=>clearV_sl (len:=1) hg (by simp;omega) hl1 (by decide)
   have hap:appendD h 58 7 72 (.sl id 7 0 i) []=some (.sl id 7 0 i,h):=rfl
   have hi':i≤xs.length:=by omega
   simp [t116,on_slice3,on_clear,hb3,hne,hg,h1,e2,e3,e4,hcl,hap,hi']
   refine ⟨_,_,⟨rfl,rfl⟩,.arr id [(.agg [.int .i64 0,.int .i64 0,.int .i64 0,.int .i64 0,.nsl,.int .i64 0,.bool false])] none (by simp;omega) ?_ hl1 hi1,(Ext.refl hlo wf).set hi1 hlt,(Keep.refl _ _).set wf hg hlt⟩
   rw [get_set wf hlt,if_pos rfl]
   simp [splice]
   omega
  ·have h1:i+1≤xs.length:=by omega
   have h2:i+1<(xs.map eEntry).length:=by simp;omega
   have e1:List.take (xs.length-(i+1)) (List.drop (i+1) (List.map eEntry xs))=List.drop (i+1) (List.map eEntry xs):=List.take_of_length_le (by simp)
   have e5:i+1+(xs.length-(i+1))≤xs.length:=by omega
   have e6:i+(xs.length-(i+1))=xs.length-1:=by omega
   have e7:xs.length-(xs.length-1)=1:=by omega
   have hi':i≤xs.length:=by omega
   have hq:xs.length-1≤xs.length:=by omega
   obtain ⟨H,hH⟩:∃ H,H=h.set id (.arr 58 7 ((xs.map eEntry).take i++(xs.map eEntry).drop (i+1)++(xs.map eEntry).drop (xs.length-1)) none):=⟨_,rfl⟩
   have hap:appendD h 58 7 72 (.sl id 7 0 i) (List.drop (i+1) (List.map eEntry xs))=some (.sl id 7 0 (xs.length-1),H):=by
    rw [appendD_in hg (by simp;omega) hl1 (by simp;omega) (by decide) (by simp;omega),del_in _ _ h2,hH]
    simp [e6]
   have gH:H.get id=some (.arr 58 7 ((xs.map eEntry).take i++(xs.map eEntry).drop (i+1)++(xs.map eEntry).drop (xs.length-1)) none):=by rw [hH,get_set wf hlt,if_pos rfl]
   have lH:H.lim=h.lim:=by rw [hH];rfl
   have wH:WF H:=by rw [hH];exact wf.set
   have nH:H.n=h.n:=by rw [hH];rfl
   have hln:(List.take i (xs.map eEntry)++List.drop (i+1) (xs.map eEntry)).length=xs.length-1:=by simp;omega
   have hcl:∀z,clearV H 7 z (.sl id 7 (xs.length-1) 1)=some (.tup [],H.set id (.arr 58 7 (splice ((xs.map eEntry).take i++(xs.map eEntry).drop (i+1)++(xs.map eEntry).drop (xs.length-1)) [z] (xs.length-1)) none)):=fun z=>clearV_sl (len:=1) gH (by simp;omega) (by rw [lH];exact hl1) (by decide)
   have hb1:IntKind.i64.wrap ((xs.length-1:Nat):Int)=((xs.length-1:Nat):Int):=wrap64 (by omega) (by omega)
   have hsl:sliceO 7 7 id 0 (xs.length-1) (some (.int .i64 ((xs.length-1:Nat):Int))) (some (.int .i64 ((xs.length:Nat):Int))) (H.get id)=some (.sl id 7 (xs.length-1) 1):=by
    have hL:(List.take i (xs.map eEntry)++List.drop (i+1) (xs.map eEntry)++List.drop (xs.length-1) (xs.map eEntry)).length=xs.length:=by simp;omega
    rw [gH,sliceO_some,hL,if_pos ⟨rfl,rfl,by omega⟩,boundV_nat _ _ _ _ (by omega),someSl_some,boundV_nat _ _ _ _ (by omega),slOf_some]
    simp [e7]
   simp [t116,on_slice3,on_clear,hb3,hne,hg,h1,e1,hap,hi',hsl,hcl]
   refine ⟨_,_,⟨rfl,rfl⟩,.arr id [(.agg [.int .i64 0,.int .i64 0,.int .i64 0,.int .i64 0,.nsl,.int .i64 0,.bool false])] none (by simp;omega) ?_ ?_ hi1,?_,?_⟩
   ·rw [get_set wH (by rw [nH];exact hlt),if_pos rfl]
    have:=splice_end (List.take i (xs.map eEntry)++List.drop (i+1) (xs.map eEntry)) (List.drop (xs.length-1) (xs.map eEntry)) [(.agg [.int .i64 0,.int .i64 0,.int .i64 0,.int .i64 0,.nsl,.int .i64 0,.bool false])]
    rw [hln]at this
    rw [List.append_assoc]at this
    rw [this]
    simp
    omega
   ·show H.lim≤id
    rw [lH];exact hl1
   ·rw [hH]
    exact ((Ext.refl hlo wf).set hi1 hlt).set hi1 (by exact hlt)
   ·rw [hH]
    exact ((Keep.refl _ _).set wf hg hlt).set wf.set hg (by exact hlt)
theorem s128 (lo:Nat) (h:Heap) (v:DV) (xs:List OwnS) (i:Nat) (ho:Own lo h v 60 3 (xs.map eOwn)) (hi:i<xs.length) (hl:xs.length≤1000000) (wf:WF h) (hlo:lo≤h.n) :
  ∃ v' h',fc D 128 [v,.int .i64 (i:Int),.int .i64 ((i:Int)+1)] h=some (v',h')∧OwnR lo h' v' 60 3 ((xs.take i++xs.drop (i+1)).map eOwn)∧Ext lo h h'∧Keep 60 h h':=by
 rw [e128]
 cases ho with
 | nil hv hx =>
  have hx0:xs=[]:=List.map_eq_nil_iff.1 hx
  subst hx0
  simp at hi
 | arr id hv hg hl1 hi1 =>
  subst hv
  have hlt:=get_some_lt hg
  have hb3:slice3V (.sl id 3 0 xs.length) (.int .i64 (i:Int)) (.int .i64 ((i:Int)+1)) (.int .i64 (xs.length:Int))=some .unk:=slice3V_sl (hi:=i+1) (by omega) (by omega)
  have hne:¬((i:Int)=(i:Int)+1):=by omega
  rw [goRun_eq _ _ _ _ (by simp [t128])]
  by_cases hend:i+1=xs.length
  ·have h1:i+1≤xs.length:=by omega
   have e2:xs.length-(i+1)=0:=by omega
   have e3:List.drop (i+1) xs=[]:=List.drop_eq_nil_of_le (by omega)
   have e4:xs.length-i=1:=by omega
   have hn0:(i:Int)≤(xs.length:Int):=by omega
   have hcl:∀z,clearV h 3 z (.sl id 3 i 1)=some (.tup [],h.set id (.arr 60 3 (splice (xs.map eOwn) [z] i) none)):=fun z=>clearV_sl (len:=1) hg (by simp;omega) hl1 (by decide)
   have hap:appendD h 60 3 40 (.sl id 3 0 i) []=some (.sl id 3 0 i,h):=rfl
   have hi':i≤xs.length:=by omega
   simp [t128,on_slice3,on_clear,hb3,hne,hg,h1,e2,e3,e4,hcl,hap,hi']
   refine ⟨_,_,⟨rfl,rfl⟩,.arr id [(.agg [.int .i64 0,.int .i64 0,.nsl])] none (by simp;omega) ?_ hl1 hi1,(Ext.refl hlo wf).set hi1 hlt,(Keep.refl _ _).set wf hg hlt⟩
   rw [get_set wf hlt,if_pos rfl]
   simp [splice]
   omega
  ·have h1:i+1≤xs.length:=by omega
   have h2:i+1<(xs.map eOwn).length:=by simp;omega
   have e1:List.take (xs.length-(i+1)) (List.drop (i+1) (List.map eOwn xs))=List.drop (i+1) (List.map eOwn xs):=List.take_of_length_le (by simp)
   have e5:i+1+(xs.length-(i+1))≤xs.length:=by omega
   have e6:i+(xs.length-(i+1))=xs.length-1:=by omega
   have e7:xs.length-(xs.length-1)=1:=by omega
   have hi':i≤xs.length:=by omega
   have hq:xs.length-1≤xs.length:=by omega
   obtain ⟨H,hH⟩:∃ H,H=h.set id (.arr 60 3 ((xs.map eOwn).take i++(xs.map eOwn).drop (i+1)++(xs.map eOwn).drop (xs.length-1)) none):=⟨_,rfl⟩
   have hap:appendD h 60 3 40 (.sl id 3 0 i) (List.drop (i+1) (List.map eOwn xs))=some (.sl id 3 0 (xs.length-1),H):=by
    rw [appendD_in hg (by simp;omega) hl1 (by simp;omega) (by decide) (by simp;omega),del_in _ _ h2,hH]
    simp [e6]
   have gH:H.get id=some (.arr 60 3 ((xs.map eOwn).take i++(xs.map eOwn).drop (i+1)++(xs.map eOwn).drop (xs.length-1)) none):=by rw [hH,get_set wf hlt,if_pos rfl]
   have lH:H.lim=h.lim:=by rw [hH];rfl
   have wH:WF H:=by rw [hH];exact wf.set
   have nH:H.n=h.n:=by rw [hH];rfl
   have hln:(List.take i (xs.map eOwn)++List.drop (i+1) (xs.map eOwn)).length=xs.length-1:=by simp;omega
   have hcl:∀z,clearV H 3 z (.sl id 3 (xs.length-1) 1)=some (.tup [],H.set id (.arr 60 3 (splice ((xs.map eOwn).take i++(xs.map eOwn).drop (i+1)++(xs.map eOwn).drop (xs.length-1)) [z] (xs.length-1)) none)):=fun z=>clearV_sl (len:=1) gH (by simp;omega) (by rw [lH];exact hl1) (by decide)
   have hb1:IntKind.i64.wrap ((xs.length-1:Nat):Int)=((xs.length-1:Nat):Int):=wrap64 (by omega) (by omega)
   have hsl:sliceO 3 3 id 0 (xs.length-1) (some (.int .i64 ((xs.length-1:Nat):Int))) (some (.int .i64 ((xs.length:Nat):Int))) (H.get id)=some (.sl id 3 (xs.length-1) 1):=by
    have hL:(List.take i (xs.map eOwn)++List.drop (i+1) (xs.map eOwn)++List.drop (xs.length-1) (xs.map eOwn)).length=xs.length:=by simp;omega
    rw [gH,sliceO_some,hL,if_pos ⟨rfl,rfl,by omega⟩,boundV_nat _ _ _ _ (by omega),someSl_some,boundV_nat _ _ _ _ (by omega),slOf_some]
    simp [e7]
   simp [t128,on_slice3,on_clear,hb3,hne,hg,h1,e1,hap,hi',hsl,hcl]
   refine ⟨_,_,⟨rfl,rfl⟩,.arr id [(.agg [.int .i64 0,.int .i64 0,.nsl])] none (by simp;omega) ?_ ?_ hi1,?_,?_⟩
   ·rw [get_set wH (by rw [nH];exact hlt),if_pos rfl]
    have:=splice_end (List.take i (xs.map eOwn)++List.drop (i+1) (xs.map eOwn)) (List.drop (xs.length-1) (xs.map eOwn)) [(.agg [.int .i64 0,.int .i64 0,.nsl])]
    rw [hln]at this
    rw [List.append_assoc]at this
    rw [this]
    simp
    omega
   ·show H.lim≤id
    rw [lH];exact hl1
   ·rw [hH]
    exact ((Ext.refl hlo wf).set hi1 hlt).set hi1 (by exact hlt)
   ·rw [hH]
    exact ((Keep.refl _ _).set wf hg hlt).set wf.set hg (by exact hlt)
end Go.Dm.Tc
/-
What functions of the library compute,part 7: elements taken out by a function.
-/
namespace Go.Dm.Tc
end Go.Dm.Tc
/-
What functions of the program compute,part 1: how advertisements are ordered and found.
-/
namespace Go.Dm.Tc
theorem s183 (a:Int):pcF D t183 [.int .i64 a]=some (.bool false):=by
 unfold pcF
 rw [goRun_eq _ _ _ _ (by simp [t183])]
 simp [t183]
def cmpI (a b:Int):Int:=if a<b then -1 else if b<a then 1 else 0
theorem s148 (a b:Int):pcF D t148 [.int .i64 a,.int .i64 b]=some (.int .i64 (cmpI a b)):=by
 unfold pcF
 rw [goRun_eq _ _ _ _ (by simp [t148])]
 by_cases h1:a<b
 ·simp [t148,e183,s183,h1,cmpI]
 ·by_cases h2:b<a
  ·simp [t148,e183,s183,h1,h2,cmpI]
  ·simp [t148,e183,s183,h1,h2,cmpI]
def orI (a b:Int):Int:=if a=0 then b else a
theorem s100 (t:Bool) (a b:Int):pcF D t100 [.isl t 1 [.int .i64 a,.int .i64 b]]=some (.int .i64 (orI a b)):=by
 unfold pcF
 rw [goRun_eq _ _ _ _ (by simp [t100])]
 simp [t100]
 rw [run_loop_of t100l0.eq_1]
 by_cases h1:a=0
 ·simp [h1,orI,indexAddrV,asI]
  rw [run_loop_of t100l0.eq_1]
  by_cases h2:b=0
  ·simp [h2,indexAddrV,asI]
   rw [run_loop_of t100l0.eq_1]
   simp [t100k0]
  ·simp [h2,indexAddrV,asI]
 ·simp [h1,orI,indexAddrV,asI]
def cmpID (a b:ID):Int:=orI (cmpI a.client b.client) (cmpI a.seq b.seq)
theorem s101 (a b c d:Int):pcF D t101 [.agg [.int .i64 a,.int .i64 b],.agg [.int .i64 c,.int .i64 d]]=some (.int .i64 (cmpID ⟨a,b⟩ ⟨c,d⟩)):=by
 unfold pcF
 rw [goRun_eq _ _ _ _ (by simp [t101])]
 simp [t101,e148,s148,e100,mkIsl,s100,cmpID]
def ltID (a b:ID):Bool:=decide (cmpID a b<0)
theorem s56 (a b c d:Int):pcF D t56 [.agg [.int .i64 a,.int .i64 b],.agg [.int .i64 c,.int .i64 d]]=some (.bool (ltID ⟨a,b⟩ ⟨c,d⟩)):=by
 unfold pcF
 rw [goRun_eq _ _ _ _ (by simp [t56])]
 simp [t56,e101,s101,ltID]
theorem s141 (a b:Int) (p:Pred) (q c d:Int):pcF D t141 [.agg [.int .i64 a,.int .i64 b,ePred p,.int .i64 q],.agg [.int .i64 c,.int .i64 d]]=some (.int .i64 (cmpID ⟨a,b⟩ ⟨c,d⟩)):=by
 unfold pcF
 rw [goRun_eq _ _ _ _ (by simp [t141])]
 simp [t141,e101,s101]
def Rising (l:List ID):Prop:=l.Pairwise fun a b=>cmpID a b<0
theorem cmpID_lt {a b:ID}:cmpID a b<0↔a.client<b.client∨a.client=b.client∧a.seq<b.seq:=by
 unfold cmpID orI cmpI
 split<;>split<;>(try split)<;>(try split)<;>omega
theorem cmpID_eq {a b:ID}:cmpID a b=0↔a=b:=by
 cases a;cases b
 simp only [ID.mk.injEq]
 unfold cmpID orI cmpI
 simp only
 split<;>split<;>(try split)<;>(try split)<;>omega
theorem cmpID_trans {a b c:ID} (h1:cmpID a b<0) (h2:cmpID b c<0):cmpID a c<0:=by
 rw [cmpID_lt]at *;omega
theorem cmpID_tri (a b:ID):cmpID a b<0∨a=b∨cmpID b a<0:=by
 rw [cmpID_lt,cmpID_lt]
 cases a;cases b
 simp only [ID.mk.injEq]
 omega
theorem mono_of_rising {α:Type} {key:α→ID} {xs:List α} (h:Rising (xs.map key)) (x:ID):∀i j (hi:i<xs.length) (hj:j<xs.length),i≤j→cmpID (key xs[j]) x<0→cmpID (key xs[i]) x<0:=by
 intro i j hi hj hij hlt
 rcases Nat.lt_or_eq_of_le hij with hl|rfl
 ·have:=List.pairwise_iff_getElem.1 h i j (by simpa using hi) (by simpa using hj) hl
  simp only [List.getElem_map]at this
  exact cmpID_trans this hlt
 ·exact hlt
theorem s71 (x0 x1 x2 x4 x5:DV) (t:Bool) (l:List ID) (c d:Int) (hr:Rising l) (hl:l.length≤1000000) :
  pcF D t71 [.agg [x0,x1,x2,eL t 2 eID l,x4,x5],.agg [.int .i64 c,.int .i64 d]]=some (.tup [.int .i64 (lowIdx (fun a=>cmpID a ⟨c,d⟩) l),.bool (hitAt (fun a=>cmpID a ⟨c,d⟩) l)]):=by
 have hb:=s139 t l c d 101 [] (fun a=>cmpID a ⟨c,d⟩) (fun x _ h=>by simp [eID,e101,s101]) hl (by
  have:=mono_of_rising (key:=fun a:ID=>a) (xs:=l) (by simpa using hr) ⟨c,d⟩
  exact this)
 unfold pcF
 rw [goRun_eq _ _ _ _ (by simp [t71])]
 simp [t71,e139,hb,resultsOf]
theorem s72 (x0 x1 x3 x4 x5:DV) (t:Bool) (l:List Advert) (c d:Int) (hr:Rising (l.map (·.id))) (hl:l.length≤1000000) :
  pcF D t72 [.agg [x0,x1,eL t 4 eAdvert l,x3,x4,x5],.agg [.int .i64 c,.int .i64 d]]=some (.tup [.int .i64 (lowIdx (fun a=>cmpID a.id ⟨c,d⟩) l),.bool (hitAt (fun a=>cmpID a.id ⟨c,d⟩) l)]):=by
 have hb:=s140 t l c d 141 [] (fun a=>cmpID a.id ⟨c,d⟩) (fun x _ h=>by simp [eAdvert,e141,s141]) hl (mono_of_rising hr ⟨c,d⟩)
 unfold pcF
 rw [goRun_eq _ _ _ _ (by simp [t72])]
 simp [t72,e140,hb,resultsOf]
end Go.Dm.Tc
/-
What functions of the program compute,part 2: a broker with rows of its own;an advertisement learned.
-/
namespace Go.Dm.Tc
end Go.Dm.Tc
/-
What functions of the program compute,part 3: an advertisement learned,found.
-/
namespace Go.Dm.Tc
section
variable {α:Type} (key:α→ID)
def insAt (a:α) (l:List α):List α:=l.take (lowIdx (fun b=>cmpID (key b) (key a)) l)++a::l.drop (lowIdx (fun b=>cmpID (key b) (key a)) l)
theorem rising_low {l:List α} (h:Rising (l.map key)) (x:ID):(∀i (hi:i<l.length),i<lowIdx (fun b=>cmpID (key b) x) l→cmpID (key l[i]) x<0)∧(∀i (hi:i<l.length),lowIdx (fun b=>cmpID (key b) x) l≤i→¬cmpID (key l[i]) x<0):=by
 constructor
 ·intro i hi hlt
  have:=List.not_of_lt_findIdx (p:=fun b=>!decide (cmpID (key b) x<0)) hlt
  simpa using this
 ·intro i hi hle hc
  have hk:lowIdx (fun b=>cmpID (key b) x) l<l.length:=Nat.lt_of_le_of_lt hle hi
  have h1:¬cmpID (key l[lowIdx (fun b=>cmpID (key b) x) l]) x<0:=by
   have:=List.findIdx_getElem (p:=fun b=>!decide (cmpID (key b) x<0)) (w:=hk)
   unfold lowIdx
   simpa using this
  exact h1 (mono_of_rising h x _ _ hk hi hle hc)
theorem hit_find {l:List α} (h:Rising (l.map key)) (x:ID):match l.find? (fun b=>key b=x) with
  | some a=>hitAt (fun b=>cmpID (key b) x) l=true∧l[lowIdx (fun b=>cmpID (key b) x) l]?=some a
  | none=>hitAt (fun b=>cmpID (key b) x) l=false:=by
 obtain ⟨r1,r2⟩:=rising_low key h x
 have hone:∀i j (hi:i<l.length) (hj:j<l.length),key l[i]=x→key l[j]=x→i=j:=by
  intro i j hi hj e1 e2
  rcases Nat.lt_trichotomy i j with hlt|he|hlt
  ·have:=List.pairwise_iff_getElem.1 h i j (by simpa using hi) (by simpa using hj) hlt
   simp only [List.getElem_map,e1,e2]at this
   rw [cmpID_lt]at this;omega
  ·exact he
  ·have:=List.pairwise_iff_getElem.1 h j i (by simpa using hj) (by simpa using hi) hlt
   simp only [List.getElem_map,e1,e2]at this
   rw [cmpID_lt]at this;omega
 cases hf:l.find? (fun b=>key b=x) with
 | some a =>
  have hax:key a=x:=by simpa using List.find?_some hf
  obtain ⟨i,hi,hia⟩:=List.mem_iff_getElem.1 (List.mem_of_find?_eq_some hf)
  have hk:lowIdx (fun b=>cmpID (key b) x) l=i:=by
   refine lowIdx_eq (Nat.le_of_lt hi) (fun q hq=>?_) (fun hq=>?_)
   ·have:=List.pairwise_iff_getElem.1 h q i (by simp;omega) (by simpa using hi) hq
    simp only [List.getElem_map,hia,hax]at this
    exact this
   ·rw [hia,hax,cmpID_lt];omega
  have hge:l[lowIdx (fun b=>cmpID (key b) x) l]?=some a:=by rw [hk,List.getElem?_eq_getElem hi,hia]
  refine ⟨?_,hge⟩
  unfold hitAt
  rw [hge]
  simp only [hax]
  simp [cmpID_eq]
 | none =>
  unfold hitAt
  cases hg:l[lowIdx (fun b=>cmpID (key b) x) l]? with
  | none=>rfl
  | some a =>
   have:key a≠x:=by
    have:=List.find?_eq_none.1 hf a (List.mem_of_getElem? hg)
    simpa using this
   simp only [decide_eq_false_iff_not]
   rw [cmpID_eq];exact this
end
theorem hit_mem {l:List ID} (hr:Rising l) (x:ID):hitAt (fun b=>cmpID b x) l=decide (x∈l):=by
 have hf:=hit_find (fun a:ID=>a) (by simpa using hr) x
 cases hq:l.find? (fun a=>a=x) with
 | none =>
  rw [hq]at hf
  simp only at hf
  rw [hf]
  have:=List.find?_eq_none.1 hq
  symm
  simp only [decide_eq_false_iff_not]
  intro hm
  exact this x hm (by simp)
 | some a =>
  rw [hq]at hf
  rw [hf.1]
  have h1:a=x:=by simpa using List.find?_some hq
  have h2:=List.mem_of_find?_eq_some hq
  rw [h1]at h2
  simp [h2]
def advOf (b:Broker) (x:ID):Option Advert:=b.adverts.find? fun a=>a.id=x
def advZero:Advert:=⟨⟨0,0⟩,[],0⟩
def hasO {α:Type}:Option α→Bool|some _=>true|none=>false
theorem s23 (x0 x1 x3 x4 x5:DV) (t:Bool) (l:List Advert) (c d:Int) (hr:Rising (l.map (·.id))) (hl:l.length≤1000000) (f0:Flat 20 x0) (f1:Flat 20 x1) (f3:Flat 20 x3) (f4:Flat 20 x4) (f5:Flat 20 x5) :
  pcF D t23 [.agg [x0,x1,eL t 4 eAdvert l,x3,x4,x5],.agg [.int .i64 c,.int .i64 d]]=some (.tup [eAdvert ((l.find? fun a=>a.id=⟨c,d⟩).getD advZero),.bool (hasO (l.find? fun a=>a.id=⟨c,d⟩))]):=by
 have hf:=hit_find (fun a:Advert=>a.id) hr ⟨c,d⟩
 unfold pcF
 rw [goRun_eq _ _ _ _ (by simp [t23])]
 have g0:∀h,resolve true h 199 x0=some x0:=fun h=>f0 _ _ _ (by decide)
 have g1:∀h,resolve true h 199 x1=some x1:=fun h=>f1 _ _ _ (by decide)
 have g3:∀h,resolve true h 199 x3=some x3:=fun h=>f3 _ _ _ (by decide)
 have g4:∀h,resolve true h 199 x4=some x4:=fun h=>f4 _ _ _ (by decide)
 have g5:∀h,resolve true h 199 x5=some x5:=fun h=>f5 _ _ _ (by decide)
 cases hq:l.find? (fun a=>a.id=⟨c,d⟩) with
 | none =>
  rw [hq]at hf
  simp at hf
  simp [t23,e72,s72,g0,g1,g3,g4,g5,hr,hl,hf,hq,eAdvert,advZero,hasO,resultsOf]
  rfl
 | some a =>
  rw [hq]at hf
  simp at hf
  simp [t23,e72,s72,g0,g1,g3,g4,g5,hr,hl,hf.1,hf.2,hq,eAdvert,hasO,resultsOf]
theorem s57 (x0 x1 x2 x4 x5:DV) (t:Bool) (l:List ID) (c d:Int) (hr:Rising l) (hl:l.length≤1000000) (f0:Flat 20 x0) (f1:Flat 20 x1) (f2:Flat 20 x2) (f4:Flat 20 x4) (f5:Flat 20 x5) :
  pcF D t57 [.agg [x0,x1,x2,eL t 2 eID l,x4,x5],.agg [.int .i64 c,.int .i64 d]]=some (.bool (decide (⟨c,d⟩∈l))):=by
 have hh:=hit_mem hr ⟨c,d⟩
 unfold pcF
 rw [goRun_eq _ _ _ _ (by simp [t57])]
 have g0:∀h,resolve true h 199 x0=some x0:=fun h=>f0 _ _ _ (by decide)
 have g1:∀h,resolve true h 199 x1=some x1:=fun h=>f1 _ _ _ (by decide)
 have g2:∀h,resolve true h 199 x2=some x2:=fun h=>f2 _ _ _ (by decide)
 have g4:∀h,resolve true h 199 x4=some x4:=fun h=>f4 _ _ _ (by decide)
 have g5:∀h,resolve true h 199 x5=some x5:=fun h=>f5 _ _ _ (by decide)
 simp [t57,e71,s71,g0,g1,g2,g4,g5,hr,hl,hh]
structure Sized (b:Broker):Prop where
 near:b.near.length≤100000
 adv:b.adverts.length≤100000
 seen:b.seen.length≤100000
 ent:b.entries.length≤100000
 own:b.owns.length≤100000
def learnB (b:Broker) (a:Advert):Broker×Bool :=
 if a.id∈b.seen then (b,false) else ({b with adverts:=insAt (fun a=>a.id) a b.adverts,seen:=insAt (fun x=>x) a.id b.seen},true)
end Go.Dm.Tc
/-
What functions of the program compute,part 4: are two brokers the same?
-/
namespace Go.Dm.Tc
structure SizedP (b:Broker):Prop where
 adv:∀x∈b.adverts,x.pred.length≤1000000
 ent:∀x∈b.entries,x.pred.length≤1000000
 own:∀x∈b.owns,x.pred.length≤1000000
end Go.Dm.Tc
/-
What functions of the program compute,part 5: the statements' own comparisons of brokers.
-/
namespace Go.Dm.Tc
set_option maxRecDepth 8000 in
theorem l39 (t u:Bool) (xs ys:List Entry) (hl:xs.length≤1000000) (hp:∀x∈xs,x.pred.length≤1000000) (hxy:xs.length=ys.length) :
  ∀(rest rest':List Entry) (i:Nat) (f:FEnv) (h:Heap),xs.drop i=rest→ys.drop i=rest'→f 0=eL t 7 eEntry xs→f 1=eL u 7 eEntry ys→f 12=.int .i64 xs.length→f 13=.int .i64 i →
  pcOut (fin [.t 4] (run D 81 [.block 0,.seq t39k0] (.loop t39l0) f h))=some (.bool (decide (rest=rest'))):=by
 intro rest
 induction rest with
 | nil =>
  intro rest' i f h hd hd1 h0 h1 h12 h13
  have hi:=drop_nil hd
  have:¬(i<xs.length):=by omega
  have hr:rest'=[]:=by rw [←hd1];exact List.drop_eq_nil_of_le (by omega)
  subst hr
  rw [run_loop_of t39l0.eq_1]
  simp [t39k0,h12,h13,this]
 | cons e rest ih =>
  intro rest' i f h hd hd1 h0 h1 h12 h13
  obtain ⟨hi,he,hd'⟩:=drop_at hd
  cases rest' with
  | nil=>have:=drop_nil hd1;omega
  | cons e' rest' =>
   obtain ⟨hi',he',hd1'⟩:=drop_at hd1
   have hpe:e.pred.length≤1000000:=hp e (by rw [←he];exact List.getElem_mem hi)
   have hsp:=s48 false false e.pred e'.pred hpe
   simp only [←ePred.eq_1]at hsp
   rw [run_loop_of t39l0.eq_1]
   by_cases h1':e.tree=e'.tree
   ·by_cases h2':e.sub=e'.sub
    ·by_cases h3':e.frm=e'.frm
     ·by_cases h4':e.up=e'.up
      ·by_cases h5':e.pred=e'.pred
       ·have:e=e':=by cases e;cases e';simp_all
        subst this
        simp [h0,h1,h12,h13,hi,hi',he,he',eEntry,e48,hsp]
        rw [wrap64 (by omega) (by omega)]
        refine (ih rest' (i+1) _ h hd' hd1' ?_ ?_ ?_ ?_).trans ?_<;>simp [h0,h1,h12,eEntry]
       ·have:e≠e':=fun h=>h5' (by rw [h])
        simp [h0,h1,h12,h13,hi,hi',he,he',eEntry,h1',h2',h3',h4',e48,hsp,h5',this]
      ·have:e≠e':=fun h=>h4' (by rw [h])
       simp [h0,h1,h12,h13,hi,hi',he,he',eEntry,h1',h2',h3',beq_eq_false_iff_ne.2 h4',this]
     ·have:e≠e':=fun h=>h3' (by rw [h])
      simp [h0,h1,h12,h13,hi,hi',he,he',eEntry,h1',h2',h3',this]
    ·have:e≠e':=fun h=>h2' (by rw [h])
     simp [h0,h1,h12,h13,hi,hi',he,he',eEntry,h1',id_ne h2',this]
   ·have:e≠e':=fun h=>h1' (by rw [h])
    simp [h0,h1,h12,h13,hi,hi',he,he',eEntry,id_ne h1',this]
theorem s39 (t u:Bool) (xs ys:List Entry) (hl:xs.length≤1000000) (hp:∀x∈xs,x.pred.length≤1000000) :
  pcF D t39 [eL t 7 eEntry xs,eL u 7 eEntry ys]=some (.bool (decide (xs=ys))):=by
 unfold pcF
 rw [goRun_eq _ _ _ _ (by simp [t39])]
 by_cases hxy:xs.length=ys.length
 ·simp [t39,hxy]
  refine (l39 t u xs ys hl hp hxy xs ys 0 _ _ rfl rfl ?_ ?_ ?_ ?_).trans ?_<;>simp [hxy]
 ·have:xs≠ys:=fun h=>hxy (by rw [h])
  have h2:¬((xs.length:Int)=ys.length):=by omega
  simp [t39,h2,this]
theorem m25 (t u:Tags) (a b:Broker) (ta:Nat) (h:Heap) (hl:a.owns.length≤1000000) (hp:SizedP a) (hxy:a.owns.length=b.owns.length) (g0:h.get 0=some (.arr ta 6 [eBroker t a] (some 1))) (g1:h.get 1=some (.arr ta 6 [eBroker u b] (some 1))) :
  ∀(rest rest':List OwnS) (i:Nat) (f:FEnv),a.owns.drop i=rest→b.owns.drop i=rest'→f 2=.ptr 0 6 0 0→f 3=.ptr 1 6 0 0→f 107=.int .i64 a.owns.length→f 108=.int .i64 i →
  pcOut (fin [.t 4] (run D 141 [.block 2,.seq t25k0] (.loop t25l1) f h))=some (.bool (decide (rest=rest'))):=by
 intro rest
 induction rest with
 | nil =>
  intro rest' i f hd hd1 h2 h3 h107 h108
  have hi:=drop_nil hd
  have:¬(i<a.owns.length):=by omega
  have hr:rest'=[]:=by rw [←hd1];exact List.drop_eq_nil_of_le (by omega)
  subst hr
  rw [run_loop_of t25l1.eq_1]
  simp [t25k0,h107,h108,this]
 | cons e rest ih =>
  intro rest' i f hd hd1 h2 h3 h107 h108
  obtain ⟨hi,he,hd'⟩:=drop_at hd
  cases rest' with
  | nil=>have:=drop_nil hd1;omega
  | cons e' rest' =>
   obtain ⟨hi',he',hd1'⟩:=drop_at hd1
   have hpe:e.pred.length≤1000000:=hp.own e (by rw [←he];exact List.getElem_mem hi)
   have hsp:=s48 false false e.pred e'.pred hpe
   simp only [←ePred.eq_1]at hsp
   rw [run_loop_of t25l1.eq_1]
   by_cases h1':e.id=e'.id
   ·by_cases h5':e.pred=e'.pred
    ·have:e=e':=by cases e;cases e';simp_all
     subst this
     simp [h2,h3,h107,h108,g0,g1,eBroker,hi,hi',he,he',eOwn,e48,hsp]
     rw [wrap64 (by omega) (by omega)]
     refine (ih rest' (i+1) _ hd' hd1' ?_ ?_ ?_ ?_).trans ?_<;>simp [h2,h3,h107,eBroker]
    ·have:e≠e':=fun h=>h5' (by rw [h])
     simp [h2,h3,h107,h108,g0,g1,eBroker,hi,hi',he,he',eOwn,h1',e48,hsp,h5',this]
   ·have:e≠e':=fun h=>h1' (by rw [h])
    simp [h2,h3,h107,h108,g0,g1,eBroker,hi,hi',he,he',eOwn,id_ne h1',this]
theorem l25 (t u:Tags) (a b:Broker) (ta:Nat) (h:Heap) (hl:a.adverts.length≤1000000) (hlo:a.owns.length≤1000000) (hp:SizedP a) (hxy:a.adverts.length=b.adverts.length) (hoo:a.owns.length=b.owns.length) (g0:h.get 0=some (.arr ta 6 [eBroker t a] (some 1))) (g1:h.get 1=some (.arr ta 6 [eBroker u b] (some 1))) :
  ∀(rest rest':List Advert) (i:Nat) (f:FEnv),a.adverts.drop i=rest→b.adverts.drop i=rest'→f 2=.ptr 0 6 0 0→f 3=.ptr 1 6 0 0→f 56=.int .i64 a.adverts.length→f 57=.int .i64 i →
  pcOut (fin [.t 4] (run D 141 [.block 0,.seq t25k1] (.loop t25l0) f h))=some (.bool (decide (rest=rest') && decide (a.owns=b.owns))):=by
 intro rest
 induction rest with
 | nil =>
  intro rest' i f hd hd1 h2 h3 h56 h57
  have hi:=drop_nil hd
  have:¬(i<a.adverts.length):=by omega
  have hr:rest'=[]:=by rw [←hd1];exact List.drop_eq_nil_of_le (by omega)
  subst hr
  rw [run_loop_of t25l0.eq_1]
  simp [t25k1,h2,h3,h56,h57,this,g0,eBroker]
  exact m25 t u a b ta h hlo hp hoo g0 g1 a.owns b.owns 0 _ rfl rfl (by simp [h2]) (by simp [h3]) (by simp) (by simp)
 | cons e rest ih =>
  intro rest' i f hd hd1 h2 h3 h56 h57
  obtain ⟨hi,he,hd'⟩:=drop_at hd
  cases rest' with
  | nil=>have:=drop_nil hd1;omega
  | cons e' rest' =>
   obtain ⟨hi',he',hd1'⟩:=drop_at hd1
   have hpe:e.pred.length≤1000000:=hp.adv e (by rw [←he];exact List.getElem_mem hi)
   have hsp:=s48 false false e.pred e'.pred hpe
   simp only [←ePred.eq_1]at hsp
   rw [run_loop_of t25l0.eq_1]
   by_cases h1':e.id=e'.id
   ·by_cases h4':e.parent=e'.parent
    ·by_cases h5':e.pred=e'.pred
     ·have:e=e':=by cases e;cases e';simp_all
      subst this
      simp [h2,h3,h56,h57,g0,g1,eBroker,hi,hi',he,he',eAdvert,e48,hsp]
      rw [wrap64 (by omega) (by omega)]
      refine (ih rest' (i+1) _ hd' hd1' ?_ ?_ ?_ ?_).trans ?_<;>simp [h2,h3,h56,eBroker]
     ·have:e≠e':=fun h=>h5' (by rw [h])
      simp [h2,h3,h56,h57,g0,g1,eBroker,hi,hi',he,he',eAdvert,h1',h4',e48,hsp,h5',this]
    ·have:e≠e':=fun h=>h4' (by rw [h])
     simp [h2,h3,h56,h57,g0,g1,eBroker,hi,hi',he,he',eAdvert,h1',h4',this]
   ·have:e≠e':=fun h=>h1' (by rw [h])
    simp [h2,h3,h56,h57,g0,g1,eBroker,hi,hi',he,he',eAdvert,id_ne h1',this]
theorem s25 (t u:Tags) (a b:Broker) (hs:Sized a) (hp:SizedP a):pcF D t25 [eBroker t a,eBroker u b]=some (.bool (decide (a=b))):=by
 obtain ⟨z1,z2,z3,z4,z5⟩:=hs
 have q1:=s80 t.near u.near a.near b.near (by omega)
 have q2:=s81 t.seen u.seen a.seen b.seen (by omega)
 have q3:=s39 t.entries u.entries a.entries b.entries (by omega) hp.ent
 unfold pcF
 rw [goRun_eq _ _ _ _ (by simp [t25])]
 by_cases h1:a.me=b.me
 ·by_cases h2:a.near=b.near
  ·by_cases h3:a.seen=b.seen
   ·by_cases h4:a.adverts.length=b.adverts.length
    ·have k4:((a.adverts.length:Int)=b.adverts.length)=True:=eq_true (by omega)
     by_cases h5:a.owns.length=b.owns.length
     ·have k5:((a.owns.length:Int)=b.owns.length)=True:=eq_true (by omega)
      by_cases h6:a.entries=b.entries
      ·have:(a=b)=(a.adverts=b.adverts∧a.owns=b.owns):=by cases a;cases b;simp_all
       simp [t25,eBroker,h1,q1,q2,q3,eq_true h2,eq_true h3,k4,k5,eq_true h6,this,e80,e81,e39]
       have:=l25 t u a b 29 ((heap0.push (.arr 29 6 [eBroker t a] (some 1))).push (.arr 29 6 [eBroker u b] (some 1))) (by omega) (by omega) hp h4 h5 (by simp) (by simp) a.adverts b.adverts 0
       simp only [eBroker,h1]at this
       refine (this _ rfl rfl ?_ ?_ ?_ ?_).trans ?_<;>simp
      ·have:a≠b:=fun h=>h6 (by rw [h])
       simp [t25,eBroker,h1,q1,q2,q3,eq_true h2,eq_true h3,k4,k5,h6,this,e80,e81,e39]
     ·have:a≠b:=fun h=>h5 (by rw [h])
      have k5:((a.owns.length:Int)=b.owns.length)=False:=eq_false (by omega)
      simp [t25,eBroker,h1,q1,q2,eq_true h2,eq_true h3,k4,k5,this,e80,e81]
    ·have:a≠b:=fun h=>h4 (by rw [h])
     have k4:((a.adverts.length:Int)=b.adverts.length)=False:=eq_false (by omega)
     simp [t25,eBroker,h1,q1,q2,eq_true h2,eq_true h3,k4,this,e80,e81]
   ·have:a≠b:=fun h=>h3 (by rw [h])
    simp [t25,eBroker,h1,q1,q2,eq_true h2,h3,this,e80,e81]
  ·have:a≠b:=fun h=>h2 (by rw [h])
   simp [t25,eBroker,h1,q1,h2,this,e80]
 ·have:a≠b:=fun h=>h1 (by rw [h])
  simp [t25,eBroker,h1,this]
end Go.Dm.Tc
/-
What functions of the statements' own packages compute: numbers brought into bounds;predicates made of numbers;a broker copied.
-/
namespace Go.Dm.Tc
def within (n lo hi:Int):Int:=if n.tmod (hi-lo+1)<0 then lo+(n.tmod (hi-lo+1)+hi-lo+1) else lo+n.tmod (hi-lo+1)
theorem within_bounds (n:Int) {lo hi:Int} (h:lo≤hi):lo≤within n lo hi∧within n lo hi≤hi:=by
 have h1:0<hi-lo+1:=by omega
 have h2:=Int.tmod_lt_of_pos n h1
 have h3:-(hi-lo+1)<n.tmod (hi-lo+1):=by
  have:=Int.lt_tmod_of_pos n h1
  omega
 unfold within
 split<;>omega
theorem s16 (n lo hi:Int) (h:lo≤hi) (hlo:-1000000000≤lo) (hhi:hi≤1000000000):pcF D t16 [.int .i64 n,.int .i64 lo,.int .i64 hi]=some (.int .i64 (within n lo hi)):=by
 unfold pcF
 rw [goRun_eq _ _ _ _ (by simp [t16])]
 have h1:0<hi-lo+1:=by omega
 have h2:=Int.tmod_lt_of_pos n h1
 have h3:-(hi-lo+1)<n.tmod (hi-lo+1):=by
  have:=Int.lt_tmod_of_pos n h1
  omega
 have w1:IntKind.i64.wrap (hi-lo)=hi-lo:=wrap64 (by omega) (by omega)
 have w2:IntKind.i64.wrap (hi-lo+1)=hi-lo+1:=wrap64 (by omega) (by omega)
 have hne:hi-lo+1≠0:=by omega
 have hr:arithD .rem (.int .i64 n) (.int .i64 (hi-lo+1))=some (.int .i64 (n.tmod (hi-lo+1))):=by simp [arithD,hne]
 by_cases hneg:n.tmod (hi-lo+1)<0
 ·have w3:IntKind.i64.wrap (n.tmod (hi-lo+1)+hi)=n.tmod (hi-lo+1)+hi:=wrap64 (by omega) (by omega)
  have w4:IntKind.i64.wrap (n.tmod (hi-lo+1)+hi-lo)=n.tmod (hi-lo+1)+hi-lo:=wrap64 (by omega) (by omega)
  have w5:IntKind.i64.wrap (n.tmod (hi-lo+1)+hi-lo+1)=n.tmod (hi-lo+1)+hi-lo+1:=wrap64 (by omega) (by omega)
  have w6:IntKind.i64.wrap (lo+(n.tmod (hi-lo+1)+hi-lo+1))=lo+(n.tmod (hi-lo+1)+hi-lo+1):=wrap64 (by omega) (by omega)
  simp [t16,w1,w2,hr,hneg,w3,w4,w5,w6,within]
 ·have w6:IntKind.i64.wrap (lo+n.tmod (hi-lo+1))=lo+n.tmod (hi-lo+1):=wrap64 (by omega) (by omega)
  simp [t16,w1,w2,hr,hneg,w6,within]
def namesL:List (List UInt8):=[[97],[98],[99],[100],[101],[102],[103]]
def textsL:List (List UInt8):=[[],[120],[120,121],[120,121,122],[120,122],[121],[121,121]]
theorem s67:pcF D t67 []=some (eL false 1 eStr namesL):=by
 unfold pcF
 rw [goRun_eq _ _ _ _ (by simp [t67])]
 simp [t67,List.replicate]
 exact ⟨rfl,rfl⟩
theorem s136:pcF D t136 []=some (eL false 1 eStr textsL):=by
 unfold pcF
 rw [goRun_eq _ _ _ _ (by simp [t136])]
 simp [t136,List.replicate]
 exact ⟨rfl,rfl⟩
def pickI (l:List Int) (i:Nat):Int:=if l.length=0 then 0 else l.getD (i % l.length) 0
theorem s69 (t:Bool) (l:List Int) (i:Nat):pcF D t69 [eL t 1 cInt l,.int .i64 i]=some (.int .i64 (pickI l i)):=by
 unfold pcF
 rw [goRun_eq _ _ _ _ (by simp [t69])]
 cases l with
 | nil=>simp [t69,pickI]
 | cons x l =>
  have hne:((l.length:Int)+1)≠0:=by omega
  have hr:arithD .rem (.int .i64 (i:Int)) (.int .i64 ((l.length:Int)+1))=some (.int .i64 ((i % (l.length+1):Nat):Int)):=by
   simp only [arithD,if_true,if_neg hne]
   congr 2
  have hlt:i % (l.length+1)<(x::l).length:=by simp;exact Nat.mod_lt _ (by omega)
  simp [t69,hr,-Int.natCast_emod,List.getElem?_eq_getElem hlt,cInt,pickI,hne]
def mkCons (name:List UInt8) (n:Int):Cons :=
 if within n 0 3=0∨within n 0 3=1 then ⟨name,1,within (IntKind.i64.wrap (n.tdiv 4)) 0 9,within (IntKind.i64.wrap (n.tdiv 4)) 0 9+within (IntKind.i64.wrap (n.tdiv 40)) 0 9,[]⟩
 else ⟨name,if within n 0 3=2 then 2 else 3,0,0,textsL.getD (within (IntKind.i64.wrap (n.tdiv 4)) 0 6).toNat []⟩
set_option maxRecDepth 8000 in
theorem s68 (name:List UInt8) (n:Int):pcF D t68 [.str name,.int .i64 n]=some (eCons (mkCons name n)):=by
 unfold pcF
 rw [goRun_eq _ _ _ _ (by simp [t68])]
 have w0:=s16 n 0 3 (by decide) (by decide) (by decide)
 have w1:=fun m=>s16 m 0 9 (by decide) (by decide) (by decide)
 have w2:=fun m=>s16 m 0 6 (by decide) (by decide) (by decide)
 have hq4:arithD .quo (.int .i64 n) (.int .i64 4)=some (.int .i64 (IntKind.i64.wrap (n.tdiv 4))):=rfl
 have hq40:arithD .quo (.int .i64 n) (.int .i64 40)=some (.int .i64 (IntKind.i64.wrap (n.tdiv 40))):=rfl
 by_cases h01:within n 0 3=0∨within n 0 3=1
 ·have b1:=within_bounds (IntKind.i64.wrap (n.tdiv 4)) (show (0:Int)≤9 by decide)
  have b2:=within_bounds (IntKind.i64.wrap (n.tdiv 40)) (show (0:Int)≤9 by decide)
  have w3:IntKind.i64.wrap (within (IntKind.i64.wrap (n.tdiv 4)) 0 9+within (IntKind.i64.wrap (n.tdiv 40)) 0 9)=within (IntKind.i64.wrap (n.tdiv 4)) 0 9+within (IntKind.i64.wrap (n.tdiv 40)) 0 9:=wrap64 (by omega) (by omega)
  rcases h01 with h0|h1
  ·simp [t68,e16,w0,w1,hq4,hq40,h0,turn]
   rw [w3]
   simp [mkCons,eCons,h0]
  ·simp [t68,e16,w0,w1,hq4,hq40,h1,turn]
   rw [w3]
   simp [mkCons,eCons,h1]
 ·have b1:=within_bounds (IntKind.i64.wrap (n.tdiv 4)) (show (0:Int)≤6 by decide)
  have hlt:(within (IntKind.i64.wrap (n.tdiv 4)) 0 6).toNat<textsL.length:=by simp [textsL];omega
  obtain ⟨tx,hx⟩:∃ tx,textsL[(within (IntKind.i64.wrap (n.tdiv 4)) 0 6).toNat]?=some tx:=⟨_,List.getElem?_eq_getElem hlt⟩
  have h0:¬within n 0 3=0:=fun h=>h01 (.inl h)
  have h1:¬within n 0 3=1:=fun h=>h01 (.inr h)
  by_cases h2:within n 0 3=2
  ·simp [t68,e16,w0,w2,hq4,h0,h1,h2,turn,e136,s136,b1.1,hx,eStr]
   simp [mkCons,eCons,h0,h1,h2,hx]
  ·simp [t68,e16,w0,w2,hq4,h0,h1,h2,turn,e136,s136,b1.1,hx,eStr]
   simp [mkCons,eCons,h0,h1,h2,hx]
end Go.Dm.Tc
/-
What functions of the statements' own packages compute: predicates made of numbers.
-/
namespace Go.Dm.Tc
def and1 (n:Int):Int:=IntKind.i64.wrap ((BitVec.ofInt 64 n &&& BitVec.ofInt 64 1).toNat:Int)
def odd1 (n:Int):Bool:=decide (and1 n=1)
def mkPredA (has vals:List Int):List (List UInt8)→Nat→Pred→Pred
 | [],_,acc=>acc
 | nm::r,i,acc=>if i<has.length∧odd1 (has.getD i 0)=true∧acc.length<5 then mkPredA has vals r (i+1) (acc++[mkCons nm (pickI vals i)]) else mkPredA has vals r (i+1) acc
def mkPred (has vals:List Int):Pred:=mkPredA has vals namesL 0 []
theorem and_one (n:Int):arithD .and (.int .i64 n) (.int .i64 1)=some (.int .i64 (and1 n)):=rfl
theorem own_cons {lo:Nat} {h:Heap} {v:DV} {ety:Nat} {ys:List Cons} (w:Own lo h v ety 5 (ys.map eCons)):pcOut (some (v,h))=some (ePred ys):=w.out (fun y _=>(plain_con y).1.mono (by decide)) (fun y _=>(plain_con y).2.mono (by decide)) (k:=22) (by decide)
set_option maxRecDepth 8000 in
theorem l18 (th tv:Bool) (has vals:List Int) (tp:Nat) (h0:Heap) (g0:h0.get 0=some (.arr tp 2 [.agg [eL th 1 cInt has,eL tv 1 cInt vals]] (some 1))) (hlim:h0.lim=0) (hl:has.length≤9223372036854775807) :
  ∀(rest:List (List UInt8)) (acc:Pred) (i:Nat) (f:FEnv) (h:Heap),namesL.drop i=rest→acc.length≤i→f 1=.ptr 0 2 0 0→f 6=eL false 1 eStr namesL→f 7=.int .i64 7→f 8=.int .i64 i→Own 1 h (f 3) 62 5 (acc.map eCons)→Ext 1 h0 h →
  pcOut (fin [.t 2] (run D 43 [.block 0,.seq t18k0] (.loop t18l0) f h))=some (ePred (mkPredA has vals rest i acc)):=by
 intro rest
 induction rest with
 | nil =>
  intro acc i f h hd ha h1 h6 h7 h8 ho hx
  have hi:=drop_nil hd
  have:¬((i:Int)<7):=by simp [namesL]at hi;omega
  rw [run_loop_of t18l0.eq_1]
  simp [t18k0,h7,h8,this,mkPredA]
  exact own_cons ho
 | cons nm rest ih =>
  intro acc i f h hd ha h1 h6 h7 h8 ho hx
  obtain ⟨hi,he,hd'⟩:=drop_at hd
  have hi7:i<7:=by simpa [namesL] using hi
  have hlt:(i:Int)<7:=by omega
  have hg0:=(hx.get 0 (by decide)).trans g0
  have w1:IntKind.i64.wrap ((i:Int)+1)=(i:Int)+1:=wrap64 (by omega) (by omega)
  have hpk:=s69 tv vals i
  have hlen:lenV h 1 (f 3)=some (.int .i64 (acc.length:Int)):=by simpa using ho.lenV
  rw [run_loop_of t18l0.eq_1]
  by_cases c1:i<has.length
  ·obtain ⟨b,hb⟩:∃ b,has[i]=b:=⟨_,rfl⟩
   have hb':has.getD i 0=b:=by rw [List.getD_eq_getElem?_getD,List.getElem?_eq_getElem c1,hb];rfl
   by_cases c2:and1 b=1
   ·by_cases c3:acc.length<5
    ·have c3':(acc.length:Int)<5:=by omega
     have hm:mkPredA has vals (nm::rest) i acc=mkPredA has vals rest (i+1) (acc++[mkCons nm (pickI vals i)]):=by simp only [mkPredA];rw [if_pos ⟨c1,by rw [hb'];simp [odd1,c2],c3⟩]
     rw [hm]
     simp [h1,h6,h7,h8,hlt,hg0,hi,he,eStr,cInt,c1,hb,and_one,c2,hlen,c3',e69,hpk,e68,s68,eCons]
     generalize hA:appendD _ _ _ _ _ _=A
     obtain ⟨v',h',rfl,ho',hx'⟩:=ho.push.append hx.push.wf hx.push.le (by rw [hx.push.lim,hlim];omega) hA (by simp;omega) (by decide)
     simp [w1,h8]
     refine ih (acc++[mkCons nm (pickI vals i)]) (i+1) _ h' hd' (by simp;omega) ?_ ?_ ?_ ?_ ?_ (hx.push.trans hx')<;>simp [h1,h6,h7]
     simpa [eCons] using ho'
    ·have c3':¬(acc.length:Int)<5:=by omega
     have hm:mkPredA has vals (nm::rest) i acc=mkPredA has vals rest (i+1) acc:=by simp only [mkPredA];rw [if_neg (fun q=>c3 q.2.2)]
     rw [hm]
     simp [h1,h6,h7,h8,hlt,hg0,hi,he,eStr,cInt,c1,hb,and_one,c2,hlen,c3',w1]
     refine ih acc (i+1) _ h hd' (by omega) ?_ ?_ ?_ ?_ ?_ hx<;>simp [h1,h6,h7,ho]
   ·have hm:mkPredA has vals (nm::rest) i acc=mkPredA has vals rest (i+1) acc:=by simp only [mkPredA];rw [if_neg (fun q=>c2 (by rw [hb']at q;simpa [odd1] using q.2.1))]
    rw [hm]
    simp [h1,h6,h7,h8,hlt,hg0,hi,he,eStr,cInt,c1,hb,and_one,c2,w1]
    refine ih acc (i+1) _ h hd' (by omega) ?_ ?_ ?_ ?_ ?_ hx<;>simp [h1,h6,h7,ho]
  ·have c1':¬((i:Int)<has.length):=by omega
   have hm:mkPredA has vals (nm::rest) i acc=mkPredA has vals rest (i+1) acc:=by simp only [mkPredA];rw [if_neg (fun q=>c1 q.1)]
   rw [hm]
   simp [h1,h6,h7,h8,hlt,hg0,hi,he,eStr,c1,w1]
   refine ih acc (i+1) _ h hd' (by omega) ?_ ?_ ?_ ?_ ?_ hx<;>simp [h1,h6,h7,ho]
theorem s18 (th tv:Bool) (has vals:List Int) (hl:has.length≤9223372036854775807) :
  pcF D t18 [.agg [eL th 1 cInt has,eL tv 1 cInt vals]]=some (ePred (mkPred has vals)):=by
 unfold pcF
 rw [goRun_eq _ _ _ _ (by simp [t18])]
 simp [t18,e67,s67]
 refine l18 th tv has vals 32 _ ?_ ?_ hl namesL [] 0 _ _ rfl (by simp) ?_ ?_ ?_ ?_ ?_ (Ext.refl ?_ ?_)<;>simp [namesL]
 exact .start _ _ _ _
end Go.Dm.Tc
/-
What functions of the statements' own packages compute: a broker copied;the reference's orders and searches.
-/
namespace Go.Dm.Tc
set_option maxRecDepth 8000 in
theorem s17 (t:Tags) (b:Broker) (hs:Sized b):pcF D t17 [eBroker t b]=some (eBroker .none b):=by
 obtain ⟨me,near,adv,seen,ent,own⟩:=b
 obtain ⟨z1,z2,z3,z4,z5⟩:=hs
 simp only at z1 z2 z3 z4 z5
 unfold pcF
 rw [goRun_eq _ _ _ _ (by simp [t17])]
 simp [t17,eBroker]
 generalize hA:appendD _ _ _ _ _ _=A
 obtain ⟨v1,K1,rfl,o1,x1,k1⟩:=(OwnR.fresh (lo:=2) (ety:=3) (sz:=1) (xs:=[]) (cap:=some 0) (by simp) (by simp)).append (by simp) (by simp) (by simp) hA (by simp;omega) (by decide)
 clear hA
 have a0:=x1.get 0 (by decide)
 have b0:=x1.get 1 (by decide)
 have q1:=x1.lim
 have w1:=x1.wf
 have n1:=x1.le
 have c1:0<K1.n:=by omega
 have d1:1<K1.n:=by omega
 have e1:¬0=K1.n:=by omega
 have f1:¬1=K1.n:=by omega
 simp at a0 b0 q1 o1
 simp [a0,b0,q1,w1,c1,d1,e1,f1,o1.storable,o1.ecells,turn]
 replace o1:=fun o=>(o1.setLow (o:=o) w1 (by decide) c1)
 generalize hA:appendD _ _ _ _ _ _=A
 obtain ⟨v2,K2,rfl,o2,x2,k2⟩:=(OwnR.fresh (lo:=2) (ety:=42) (sz:=4) (xs:=[]) (cap:=some 0) (by simp [q1]) (by simp;omega)).append (by simp [w1]) (by simp;omega) (by simp [q1]) hA (by simp;omega) (by decide)
 clear hA
 have a2:=x2.get 0 (by decide)
 have b2:=x2.get 1 (by decide)
 have q2:=x2.lim
 have w2:=x2.wf
 have n2:=x2.le
 have c2:0<K2.n:=by omega
 have d2:1<K2.n:=by omega
 have e2:¬0=K2.n:=by omega
 have f2:¬1=K2.n:=by omega
 simp [q1,w1,c1,d1,b0,e1,f1]at a2 b2 q2 o2
 have p1:=((o1 _).push).keep k2 x2.lim (by decide)
 simp [a2,b2,q2,w2,c2,d2,e2,f2,o2.storable,o2.ecells,turn]
 replace p1:=fun o=>(p1.setLow (o:=o) w2 (by decide) c2)
 replace o2:=fun o=>(o2.setLow (o:=o) w2 (by decide) c2)
 generalize hA:appendD _ _ _ _ _ _=A
 obtain ⟨v3,K3,rfl,o3,x3,k3⟩:=(OwnR.fresh (lo:=2) (ety:=37) (sz:=2) (xs:=[]) (cap:=some 0) (by simp [q2]) (by simp;omega)).append (by simp [w2]) (by simp;omega) (by simp [q2]) hA (by simp;omega) (by decide)
 clear hA
 have a3:=x3.get 0 (by decide)
 have b3:=x3.get 1 (by decide)
 have q3:=x3.lim
 have w3:=x3.wf
 have n3:=x3.le
 have c3:0<K3.n:=by omega
 have d3:1<K3.n:=by omega
 have e3:¬0=K3.n:=by omega
 have f3:¬1=K3.n:=by omega
 simp [q2,w2,c2,d2,b2,e2,f2]at a3 b3 q3 o3
 replace p1:=((p1 _).push).keep k3 x3.lim (by decide)
 have p2:=((o2 _).push).keep k3 x3.lim (by decide)
 simp [a3,b3,q3,w3,c3,d3,e3,f3,o3.storable,o3.ecells,turn]
 replace p1:=fun o=>(p1.setLow (o:=o) w3 (by decide) c3)
 replace p2:=fun o=>(p2.setLow (o:=o) w3 (by decide) c3)
 replace o3:=fun o=>(o3.setLow (o:=o) w3 (by decide) c3)
 generalize hA:appendD _ _ _ _ _ _=A
 obtain ⟨v4,K4,rfl,o4,x4,k4⟩:=(OwnR.fresh (lo:=2) (ety:=58) (sz:=7) (xs:=[]) (cap:=some 0) (by simp [q3]) (by simp;omega)).append (by simp [w3]) (by simp;omega) (by simp [q3]) hA (by simp;omega) (by decide)
 clear hA
 have a4:=x4.get 0 (by decide)
 have b4:=x4.get 1 (by decide)
 have q4:=x4.lim
 have w4:=x4.wf
 have n4:=x4.le
 have c4:0<K4.n:=by omega
 have d4:1<K4.n:=by omega
 have e4:¬0=K4.n:=by omega
 have f4:¬1=K4.n:=by omega
 simp [q3,w3,c3,d3,b3,e3,f3]at a4 b4 q4 o4
 replace p1:=((p1 _).push).keep k4 x4.lim (by decide)
 replace p2:=((p2 _).push).keep k4 x4.lim (by decide)
 have p3:=((o3 _).push).keep k4 x4.lim (by decide)
 simp [a4,b4,q4,w4,c4,d4,e4,f4,o4.storable,o4.ecells,turn]
 replace p1:=fun o=>(p1.setLow (o:=o) w4 (by decide) c4)
 replace p2:=fun o=>(p2.setLow (o:=o) w4 (by decide) c4)
 replace p3:=fun o=>(p3.setLow (o:=o) w4 (by decide) c4)
 replace o4:=fun o=>(o4.setLow (o:=o) w4 (by decide) c4)
 generalize hA:appendD _ _ _ _ _ _=A
 obtain ⟨v5,K5,rfl,o5,x5,k5⟩:=(OwnR.fresh (lo:=2) (ety:=60) (sz:=3) (xs:=[]) (cap:=some 0) (by simp [q4]) (by simp;omega)).append (by simp [w4]) (by simp;omega) (by simp [q4]) hA (by simp;omega) (by decide)
 clear hA
 have a5:=x5.get 0 (by decide)
 have b5:=x5.get 1 (by decide)
 have q5:=x5.lim
 have w5:=x5.wf
 have n5:=x5.le
 have c5:0<K5.n:=by omega
 have d5:1<K5.n:=by omega
 have e5:¬0=K5.n:=by omega
 have f5:¬1=K5.n:=by omega
 simp [q4,w4,c4,d4,b4,e4,f4]at a5 b5 q5 o5
 replace p1:=((p1 _).push).keep k5 x5.lim (by decide)
 replace p2:=((p2 _).push).keep k5 x5.lim (by decide)
 replace p3:=((p3 _).push).keep k5 x5.lim (by decide)
 have p4:=((o4 _).push).keep k5 x5.lim (by decide)
 have r1:=fun o o'=>((p1.setLow (o:=o) w5 (by decide) c5).setLow (o:=o') w5.set (by decide) d5).resolve (n:=199) false (fun y _=>(plain_cint y).1) (by decide)
 have r2:=fun o o'=>((p2.setLow (o:=o) w5 (by decide) c5).setLow (o:=o') w5.set (by decide) d5).resolve (n:=199) false (fun y _=>(plain_advert y).1) (by decide)
 have r3:=fun o o'=>((p3.setLow (o:=o) w5 (by decide) c5).setLow (o:=o') w5.set (by decide) d5).resolve (n:=199) false (fun y _=>(plain_id y).1) (by decide)
 have r4:=fun o o'=>((p4.setLow (o:=o) w5 (by decide) c5).setLow (o:=o') w5.set (by decide) d5).resolve (n:=199) false (fun y _=>(plain_entry y).1) (by decide)
 have r5:=fun o o'=>((o5.setLow (o:=o) w5 (by decide) c5).setLow (o:=o') w5.set (by decide) d5).resolve (n:=199) false (fun y _=>(plain_own y).1) (by decide)
 simp [a5,b5,q5,w5,c5,d5,o5.storable,o5.ecells,turn,r1,r2,r3,r4,r5,Tags.none]
end Go.Dm.Tc
/-
What the reference's functions compute,part 1: orders,searches,an advertisement learned.
-/
namespace Go.Dm.Tc
theorem ltID_eq (a b c d:Int):ltID ⟨a,b⟩ ⟨c,d⟩=(decide (a<c) || (decide (a=c) && decide (b<d))):=by
 unfold ltID
 rw [Bool.eq_iff_iff]
 simp [cmpID_lt]
theorem s76 (a b c d:Int):pcF D t76 [.agg [.int .i64 a,.int .i64 b],.agg [.int .i64 c,.int .i64 d]]=some (.bool (ltID ⟨a,b⟩ ⟨c,d⟩)):=by
 unfold pcF
 rw [goRun_eq _ _ _ _ (by simp [t76])]
 rw [ltID_eq]
 by_cases h1:a<c
 ·simp [t76,h1]
 ·by_cases h2:a=c
  ·subst h2
   simp [t76]
  ·simp [t76,h1,h2]
theorem l24 (h0:Heap) (c s:Int) (t:Bool) (l:List Advert) (hl:l.length≤1000000) (g1:h0.get 1=some (.arr 37 2 [.agg [.int .i64 c,.int .i64 s]] (some 1))) (hlim:h0.lim=0) :
  ∀(rest:List Advert) (i:Nat) (f:FEnv) (h:Heap),l.drop i=rest→f 3=.ptr 1 2 0 0→f 8=eL t 4 eAdvert l→f 9=.int .i64 l.length→f 10=.int .i64 i→Ext 2 h0 h →
  pcOut (fin [.t 4] (run D 21 [.block 0,.seq t24k0] (.loop t24l0) f h))=some (.int .i64 (idxOf ((rest.findIdx? fun a=>a.id=⟨c,s⟩).map (·+i)))):=by
 intro rest
 induction rest with
 | nil =>
  intro i f h hd h3 h8 h9 h10 hx
  have hi:=drop_nil hd
  have:¬(i<l.length):=by omega
  rw [run_loop_of t24l0.eq_1]
  simp [t24k0,h9,h10,this,idxOf]
 | cons e rest ih =>
  intro i f h hd h3 h8 h9 h10 hx
  obtain ⟨hi,he,hd'⟩:=drop_at hd
  have hg1:=(hx.get 1 (by decide)).trans g1
  have hn:1≠h.n:=by have:=hx.le;omega
  have hl0:h.lim=0:=hx.lim.trans hlim
  rw [run_loop_of t24l0.eq_1]
  by_cases ht:e.id=⟨c,s⟩
  ·simp [h3,h8,h9,h10,hi,he,hn,hg1,eAdvert,hl0,ht,List.findIdx?_cons,idxOf]
  ·have ht':=id_ne ht
   simp only at ht'
   simp [h3,h8,h9,h10,hi,he,hn,hg1,eAdvert,hl0,ht']
   rw [wrap64 (by omega) (by omega)]
   refine (ih (i+1) _ _ hd' ?_ ?_ ?_ ?_ hx.push).trans ?_<;>simp [h3,h8,h9,List.findIdx?_cons,ht,eAdvert]
   congr 2
   funext q
   simp
   omega
theorem s24 (x0 x1 x3 x4 x5:DV) (t:Bool) (l:List Advert) (c s:Int) (hl:l.length≤1000000) :
  pcF D t24 [.agg [x0,x1,eL t 4 eAdvert l,x3,x4,x5],.agg [.int .i64 c,.int .i64 s]]=some (.int .i64 (idxOf (l.findIdx? fun a=>a.id=⟨c,s⟩))):=by
 unfold pcF
 rw [goRun_eq _ _ _ _ (by simp [t24])]
 simp [t24]
 refine (l24 _ c s t l hl ?_ ?_ l 0 _ _ rfl ?_ ?_ ?_ ?_ (Ext.refl ?_ ?_)).trans ?_<;>simp
theorem l75 (h0:Heap) (c s:Int) (t:Bool) (l:List ID) (hl:l.length≤1000000) (g1:h0.get 1=some (.arr 37 2 [.agg [.int .i64 c,.int .i64 s]] (some 1))) (hlim:h0.lim=0) :
  ∀(rest:List ID) (i:Nat) (f:FEnv) (h:Heap),l.drop i=rest→f 3=.ptr 1 2 0 0→f 8=eL t 2 eID l→f 9=.int .i64 l.length→f 10=.int .i64 i→Ext 2 h0 h →
  pcOut (fin [.t 4] (run D 18 [.block 0,.seq t75k0] (.loop t75l0) f h))=some (.bool (decide (⟨c,s⟩∈rest))):=by
 intro rest
 induction rest with
 | nil =>
  intro i f h hd h3 h8 h9 h10 hx
  have hi:=drop_nil hd
  have:¬(i<l.length):=by omega
  rw [run_loop_of t75l0.eq_1]
  simp [t75k0,h9,h10,this]
 | cons e rest ih =>
  intro i f h hd h3 h8 h9 h10 hx
  obtain ⟨hi,he,hd'⟩:=drop_at hd
  have hg1:=(hx.get 1 (by decide)).trans g1
  have hn:1≠h.n:=by have:=hx.le;omega
  have hl0:h.lim=0:=hx.lim.trans hlim
  rw [run_loop_of t75l0.eq_1]
  by_cases ht:e=⟨c,s⟩
  ·simp [h3,h8,h9,h10,hi,he,hn,hg1,eID,hl0,ht]
  ·have ht':=id_ne ht
   have ht2:¬(⟨c,s⟩:ID)=e:=fun q=>ht q.symm
   simp only at ht'
   simp [h3,h8,h9,h10,hi,he,hn,hg1,eID,hl0,ht']
   rw [wrap64 (by omega) (by omega)]
   refine (ih (i+1) _ _ hd' ?_ ?_ ?_ ?_ hx.push).trans ?_<;>simp [h3,h8,h9,ht2,eID]
theorem s75 (x0 x1 x2 x4 x5:DV) (t:Bool) (l:List ID) (c s:Int) (hl:l.length≤1000000) :
  pcF D t75 [.agg [x0,x1,x2,eL t 2 eID l,x4,x5],.agg [.int .i64 c,.int .i64 s]]=some (.bool (decide (⟨c,s⟩∈l))):=by
 unfold pcF
 rw [goRun_eq _ _ _ _ (by simp [t75])]
 simp [t75]
 refine (l75 _ c s t l hl ?_ ?_ l 0 _ _ rfl ?_ ?_ ?_ ?_ (Ext.refl ?_ ?_)).trans ?_<;>simp
theorem low_step {α:Type} (cm:α→Int) {l:List α} {i:Nat} {a:α} (hlow:i≤lowIdx cm l) (ha:l[i]?=some a):(cm a<0→i+1≤lowIdx cm l)∧(¬cm a<0→lowIdx cm l=i):=by
 have hi:i<l.length:=by
  by_cases h:i<l.length
  ·exact h
  ·rw [List.getElem?_eq_none (by omega)]at ha;cases ha
 have hb:∀q (hq:q<i),cm (l[q]'(by omega))<0:=fun q hq=>by
  have:=List.not_of_lt_findIdx (p:=fun x=>!decide (cm x<0)) (Nat.lt_of_lt_of_le hq hlow)
  simpa using this
 have hai:l[i]=a:=by rw [List.getElem?_eq_getElem hi]at ha;injection ha
 constructor
 ·intro hc
  rcases Nat.lt_or_eq_of_le hlow with h|h
  ·exact h
  ·exfalso
   have hk:lowIdx cm l<l.length:=by omega
   have:=List.findIdx_getElem (p:=fun x=>!decide (cm x<0)) (w:=hk)
   have h2:¬cm l[lowIdx cm l]<0:=by
    unfold lowIdx
    simpa using this
   simp only [←h]at h2
   exact h2 (by rw [hai];exact hc)
 ·intro hc
  exact lowIdx_eq (Nat.le_of_lt hi) hb (fun _=>by rw [hai];exact hc)
end Go.Dm.Tc
/-
What the reference's functions compute,part 2: an advertisement learned.
-/
namespace Go.Dm.Tc
theorem low_lt {α:Type} (cm:α→Int) {l:List α} {i:Nat} {a:α} (hlt:i<lowIdx cm l) (ha:l[i]?=some a):decide (cm a<0)=true:=by
 have hi:i<l.length:=by have:=lowIdx_le cm l;omega
 have:=List.not_of_lt_findIdx (p:=fun b=>!decide (cm b<0)) (xs:=l) (i:=i) hlt
 rw [List.getElem?_eq_getElem hi]at ha
 injection ha with ha
 rw [ha]at this
 simpa using this
theorem l20 (S:List Fr) (h:Heap) (x0 x1 x2 x4 x5:DV) (t:Bool) (l:List ID) (c d:Int) (p q:DV) (ta tb:Nat) (hl:l.length≤1000000)
  (g0:h.get 0=some (.arr tb 6 [.agg [x0,x1,x2,eL t 2 eID l,x4,x5]] (some 1))) (g1:h.get 1=some (.arr ta 4 [.agg [.int .i64 c,.int .i64 d,p,q]] (some 1))) :
  ∀(n i:Nat) (f:FEnv),lowIdx (fun b=>cmpID b ⟨c,d⟩) l-i=n→i≤lowIdx (fun b=>cmpID b ⟨c,d⟩) l→f 2=.ptr 0 6 0 0→f 3=.ptr 1 4 0 0→f 6=.int .i64 i →
  ∃ f',run D 79 (.block 0::.seq t20k1::S) (.loop t20l0) f h=run D 79 S t20k1 f' h∧f' 2=.ptr 0 6 0 0∧f' 3=.ptr 1 4 0 0∧f' 4=f 4∧f' 5=f 5∧f' 6=.int .i64 (lowIdx (fun b=>cmpID b ⟨c,d⟩) l):=by
 intro n
 induction n with
 | zero =>
  intro i f hn hi h2 h3 h6
  have hlo:lowIdx (fun b=>cmpID b ⟨c,d⟩) l=i:=by omega
  rw [run_loop_of t20l0.eq_1]
  by_cases hlt:i<l.length
  ·have hsx:=low_step (fun b:ID=>cmpID b ⟨c,d⟩) hi (List.getElem?_eq_getElem hlt)
   have hge:ltID ⟨l[i].client,l[i].seq⟩ ⟨c,d⟩=false:=by
    unfold ltID
    simp only [decide_eq_false_iff_not]
    intro hc
    have:=hsx.1 hc
    omega
   have hlt':(i:Int)<l.length:=by omega
   simp [h2,h3,h6,g0,g1,hlt,eID,e76,s76,hge]
   exact ⟨_,rfl,by simp [h2],by simp [h3],by simp,by simp,by simp [h6,hlo]⟩
  ·simp [h2,h3,h6,g0,g1,hlt]
   exact ⟨_,rfl,by simp [h2],by simp [h3],by simp,by simp,by simp [h6,hlo]⟩
 | succ n ih =>
  intro i f hn hi h2 h3 h6
  have hlt:i<l.length:=by have:=lowIdx_le (fun b=>cmpID b ⟨c,d⟩) l;omega
  have hge:ltID ⟨l[i].client,l[i].seq⟩ ⟨c,d⟩=true:=low_lt (fun b:ID=>cmpID b ⟨c,d⟩) (by omega) (List.getElem?_eq_getElem hlt)
  rw [run_loop_of t20l0.eq_1]
  simp [h2,h3,h6,g0,g1,hlt,eID,e76,s76,hge]
  rw [wrap64 (by omega) (by omega)]
  generalize hF:upd _ 6 _=F
  obtain ⟨f',k1,k2,k3,k4,k5,k6⟩:=ih (i+1) F (by omega) (by omega) (by rw [←hF];simp [h2]) (by rw [←hF];simp [h3]) (by rw [←hF];simp)
  exact ⟨f',k1,k2,k3,by rw [k4,←hF];simp,by rw [k5,←hF];simp,k6⟩
theorem m20 (S:List Fr) (h:Heap) (x0 x1 x3 x4 x5:DV) (t:Bool) (l:List Advert) (c d:Int) (p q:DV) (ta tb:Nat) (hl:l.length≤1000000)
  (g0:h.get 0=some (.arr tb 6 [.agg [x0,x1,eL t 4 eAdvert l,x3,x4,x5]] (some 1))) (g1:h.get 1=some (.arr ta 4 [.agg [.int .i64 c,.int .i64 d,p,q]] (some 1))) :
  ∀(n i:Nat) (f:FEnv),lowIdx (fun b=>cmpID b.id ⟨c,d⟩) l-i=n→i≤lowIdx (fun b=>cmpID b.id ⟨c,d⟩) l→f 2=.ptr 0 6 0 0→f 3=.ptr 1 4 0 0→f 6=.int .i64 i →
  ∃ f',run D 79 (.block 2::.seq t20k0::S) (.loop t20l1) f h=run D 79 S t20k0 f' h∧f' 2=.ptr 0 6 0 0∧f' 3=.ptr 1 4 0 0∧f' 4=f 4∧f' 5=f 5∧f' 6=.int .i64 (lowIdx (fun b=>cmpID b.id ⟨c,d⟩) l):=by
 intro n
 induction n with
 | zero =>
  intro i f hn hi h2 h3 h6
  have hlo:lowIdx (fun b=>cmpID b.id ⟨c,d⟩) l=i:=by omega
  rw [run_loop_of t20l1.eq_1]
  by_cases hlt:i<l.length
  ·have hsx:=low_step (fun b:Advert=>cmpID b.id ⟨c,d⟩) hi (List.getElem?_eq_getElem hlt)
   have hge:ltID ⟨l[i].id.client,l[i].id.seq⟩ ⟨c,d⟩=false:=by
    unfold ltID
    simp only [decide_eq_false_iff_not]
    intro hc
    have:=hsx.1 hc
    omega
   simp [h2,h3,h6,g0,g1,hlt,eAdvert,e76,s76,hge]
   exact ⟨_,rfl,by simp [h2],by simp [h3],by simp,by simp,by simp [h6,hlo]⟩
  ·simp [h2,h3,h6,g0,g1,hlt]
   exact ⟨_,rfl,by simp [h2],by simp [h3],by simp,by simp,by simp [h6,hlo]⟩
 | succ n ih =>
  intro i f hn hi h2 h3 h6
  have hlt:i<l.length:=by have:=lowIdx_le (fun b:Advert=>cmpID b.id ⟨c,d⟩) l;omega
  have hge:ltID ⟨l[i].id.client,l[i].id.seq⟩ ⟨c,d⟩=true:=low_lt (fun b:Advert=>cmpID b.id ⟨c,d⟩) (by omega) (List.getElem?_eq_getElem hlt)
  rw [run_loop_of t20l1.eq_1]
  simp [h2,h3,h6,g0,g1,hlt,eAdvert,e76,s76,hge]
  rw [wrap64 (by omega) (by omega)]
  generalize hF:upd _ 6 _=F
  obtain ⟨f',k1,k2,k3,k4,k5,k6⟩:=ih (i+1) F (by omega) (by omega) (by rw [←hF];simp [h2]) (by rw [←hF];simp [h3]) (by rw [←hF];simp)
  exact ⟨f',k1,k2,k3,by rw [k4,←hF];simp,by rw [k5,←hF];simp,k6⟩
set_option maxRecDepth 8000 in
theorem s20 (b:Broker) (c d:Int) (p:Pred) (q:Int) (hs:Sized b) (ra:Rising (b.adverts.map (·.id))) (rs:Rising b.seen) :
  pcF D t20 [eBroker .none b,.agg [.int .i64 c,.int .i64 d,ePred p,.int .i64 q]]=some (.tup [eBroker .none (learnB b ⟨⟨c,d⟩,p,q⟩).1,.bool (learnB b ⟨⟨c,d⟩,p,q⟩).2]):=by
 obtain ⟨me,near,adv,seen,ent,own⟩:=b
 obtain ⟨z1,z2,z3,z4,z5⟩:=hs
 simp only at z1 z2 z3 z4 z5 ra rs
 obtain ⟨R,hR⟩:∃ R,R=DV.tup [eBroker .none (learnB ⟨me,near,adv,seen,ent,own⟩ ⟨⟨c,d⟩,p,q⟩).1,.bool (learnB ⟨me,near,adv,seen,ent,own⟩ ⟨⟨c,d⟩,p,q⟩).2]:=⟨_,rfl⟩
 rw [←hR]
 have hsl:seen.length≤1000000:=by omega
 have hal:adv.length≤1000000:=by omega
 unfold pcF
 rw [goRun_eq _ _ _ _ (by simp [t20])]
 by_cases hm:(⟨c,d⟩:ID)∈seen
 ·simp [t20,eBroker,Tags.none,e75,s75,hsl,hm,resultsOf]
  simp [hR,learnB,hm,Tags.none,eBroker]
 ·simp [t20,eBroker,Tags.none,e75,s75,hsl,hm]
  generalize hF:upd _ 6 _=F
  obtain ⟨f1,k1,k2,k3,k4,k5,k6⟩:=l20 [] (.int .i64 me) (eL false 1 cInt near) (eL false 4 eAdvert adv) (eL false 7 eEntry ent) (eL false 3 eOwn own) false seen c d (ePred p) (.int .i64 q) 42 29 hsl (h:=((heap0.push (.arr 29 6 [.agg [.int .i64 me,eL false 1 cInt near,eL false 4 eAdvert adv,eL false 2 eID seen,eL false 7 eEntry ent,eL false 3 eOwn own]] (some 1))).push (.arr 42 4 [.agg [.int .i64 c,.int .i64 d,ePred p,.int .i64 q]] (some 1))).push (.arr 29 6 [.agg [.int .i64 0,.nsl,.nsl,.nsl,.nsl,.nsl]] (some 1))) (by simp) (by simp) _ 0 F rfl (by omega) (by rw [←hF];simp) (by rw [←hF];simp) (by rw [←hF];simp)
  rw [k1]
  rw [←hF]at k4 k5
  simp at k4 k5
  clear hF k1
  have hlow:=lowIdx_le (fun b=>cmpID b ⟨c,d⟩) seen
  have hlow2:=lowIdx_le (fun b:Advert=>cmpID b.id ⟨c,d⟩) adv
  simp [t20k1,k2,k3,k4,k5,k6,hlow]
  generalize hA:appendD _ _ _ _ _ _=A
  obtain ⟨i1,K1,rfl,o1,x1,y1,j1⟩:=(OwnI.fresh (lo:=3) (ety:=37) (sz:=2) (xs:=[]) (cap:=some 0) (by simp) (by simp)).append (n:=0) rfl (by simp) (by simp) (by simp) hA (by simp;omega) (by decide)
  clear hA
  have a0:=x1.get 0 (by decide)
  have a1:=x1.get 1 (by decide)
  have a2:=x1.get 2 (by decide)
  have q1:=x1.lim
  have w1:=x1.wf
  have n1:=x1.le
  have u1:=o1.lo
  have m0:¬0=i1:=by omega
  have m1:¬i1=0:=by omega
  have m2:¬i1=1:=by omega
  have m3:¬1=i1:=by omega
  simp at a0 a1 a2 q1 o1
  simp [k2,k3,a0,a1,a2,q1,m0,m1,m2,m3,hlow]
  generalize hA:appendD _ _ _ _ _ _=A
  obtain ⟨i2,K2,rfl,o2,x2,y2,j2⟩:=(o1.push (o:=_)).append (by simp [hlow]) (by simp [w1]) (by simp;omega) (by simp [q1]) hA (by simp;omega) (by decide)
  clear hA
  have b0:=x2.get 0 (by decide)
  have b1:=x2.get 1 (by decide)
  have b2:=x2.get 2 (by decide)
  have q2:=x2.lim
  have w2:=x2.wf
  have n2:=x2.le
  have u2:=o2.lo
  have c0:¬0=K1.n:=by omega
  have c1:¬1=K1.n:=by omega
  have c2:¬2=K1.n:=by omega
  have m4:¬i2=0:=by omega
  have m5:¬i2=1:=by omega
  simp [a0,a1,a2,q1,c0,c1,c2]at b0 b1 b2 q2 o2
  simp [k2,k3,k6,b0,b1,b2,q2,m0,m1,m2,m3,m4,m5,hlow]
  generalize hA:appendD _ _ _ _ _ _=A
  obtain ⟨i3,K3,rfl,o3,x3,y3,j3⟩:=o2.append (by simp [hlow]) w2 n2 (by omega) hA (by simp;omega) (by decide)
  clear hA
  have d0:=x3.get 0 (by decide)
  have d1:=x3.get 1 (by decide)
  have d2:=x3.get 2 (by decide)
  have q3:=x3.lim
  have w3:=x3.wf
  have n3:=x3.le
  have l3:0<K3.n:=by omega
  rw [b0]at d0
  rw [b1]at d1
  rw [b2]at d2
  rw [q2]at q3
  have hlen:(List.take (lowIdx (fun b=>cmpID b ⟨c,d⟩) seen) (List.map eID seen)++[DV.agg [.int .i64 c,.int .i64 d]]++List.drop (lowIdx (fun b=>cmpID b ⟨c,d⟩) seen) (List.map eID seen))=(insAt (fun x=>x) ⟨c,d⟩ seen).map eID:=by simp [insAt,eID]
  have o3':OwnI 3 K3 i3 37 2 ((insAt (fun x=>x) ⟨c,d⟩ seen).map eID):=by rw [←hlen];simpa using o3
  simp [k2,k3,b0,d0,q3,w3,l3,turn]
  generalize hF:upd _ 6 _=F
  generalize hK:K3.set 0 _=K4
  have hmin:min (lowIdx (fun b=>cmpID b ⟨c,d⟩) seen) seen.length=lowIdx (fun b=>cmpID b ⟨c,d⟩) seen:=by omega
  have e0:K4.get 0=some (.arr 29 6 [.agg [.int .i64 me,eL false 1 cInt near,eL false 4 eAdvert adv,.sl i3 2 0 ((insAt (fun x=>x) ⟨c,d⟩ seen).map eID).length,eL false 7 eEntry ent,eL false 3 eOwn own]] (some 1)):=by
   rw [←hK];simp [w3,l3,hmin,insAt];omega
  have e1:K4.get 1=some (.arr 42 4 [.agg [.int .i64 c,.int .i64 d,ePred p,.int .i64 q]] (some 1)):=by
   rw [←hK];simp [w3,l3,d1]
  have e2:K4.get 2=some (.arr 29 6 [.agg [.int .i64 0,.nsl,.nsl,.nsl,.nsl,.nsl]] (some 1)):=by
   rw [←hK];simp [w3,l3,d2]
  have w4:WF K4:=by rw [←hK];exact w3.set
  have q4:K4.lim=0:=by rw [←hK];exact q3
  have n4:3≤K4.n:=by rw [←hK];exact n3
  have o4:OwnI 3 K4 i3 37 2 ((insAt (fun x=>x) ⟨c,d⟩ seen).map eID):=by rw [←hK];exact o3'.setLow w3 (by decide) l3
  have hF2:F 2=.ptr 0 6 0 0:=by rw [←hF];simp [k2]
  have hF3:F 3=.ptr 1 4 0 0:=by rw [←hF];simp [k3]
  have hF4:F 4=.ptr 2 6 0 0:=by rw [←hF];simp [k4]
  have hF5:F 5=.bool false:=by rw [←hF];simp [k5]
  have hF6:F 6=.int .i64 ((0:Nat):Int):=by rw [←hF];simp
  clear hF hK d0 d1 d2 q3 w3 n3 l3 o3 o3' x3 y3 j3 b0 b1 b2 q2 w2 n2 u2 x2 y2 j2 o2 a0 a1 a2 q1 w1 n1 u1 x1 y1 j1 o1 c0 c1 c2 m0 m1 m2 m3 m4 m5 k2 k3 k4 k5 k6 hlen
  obtain ⟨f2,k1,k2,k3,k4,k5,k6⟩:=m20 [] K4 _ _ _ _ _ false adv c d (ePred p) (.int .i64 q) _ _ hal e0 e1 _ 0 F rfl (by omega) hF2 hF3 hF6
  rw [k1]
  rw [hF4]at k4
  rw [hF5]at k5
  have u3:=o4.lo
  have v0:¬0=K4.n:=by omega
  have v1:¬1=K4.n:=by omega
  have v2:¬2=K4.n:=by omega
  have v3:¬K4.n=0:=by omega
  have v4:¬K4.n=1:=by omega
  simp [t20k0,k2,k3,k4,k5,k6,hlow2,e0,e1,e2,q4,w4,v0,v1,v2,v3,v4]
  generalize hA:appendD _ _ _ _ _ _=A
  obtain ⟨i1,K1,rfl,o1,x1,y1,j1⟩:=(OwnI.fresh (lo:=3) (ety:=42) (sz:=4) (xs:=[]) (cap:=some 0) (by omega) n4).append (n:=0) rfl w4.push (by simp;omega) (by simp [q4]) hA (by simp;omega) (by decide)
  clear hA
  have a0:=x1.get 0 (by decide)
  have a1:=x1.get 1 (by decide)
  have a2:=x1.get 2 (by decide)
  have q1:=x1.lim
  have w1:=x1.wf
  have n1:=x1.le
  have u1:=o1.lo
  have m0:¬0=i1:=by omega
  have m1:¬i1=0:=by omega
  have m2:¬i1=1:=by omega
  have m3:¬1=i1:=by omega
  simp [e0,e1,e2,v0,v1,v2,q4]at a0 a1 a2 q1 o1
  have s1:=(o4.push).keep y1 x1.lim (by decide)
  simp [k2,k3,e0,e1,e2,a0,a1,a2,q1,m0,m1,m2,m3,v3,v4,hlow2]
  generalize hA:appendD _ _ _ _ _ _=A
  obtain ⟨i2,K2,rfl,o2,x2,y2,j2⟩:=(o1.push (o:=_)).append (by simp [hlow2]) (by simp [w1]) (by simp;omega) (by simp [q1]) hA (by simp;omega) (by decide)
  clear hA
  have b0:=x2.get 0 (by decide)
  have b1:=x2.get 1 (by decide)
  have b2:=x2.get 2 (by decide)
  have q2:=x2.lim
  have w2:=x2.wf
  have n2:=x2.le
  have u2:=o2.lo
  have c0:¬0=K1.n:=by omega
  have c1:¬1=K1.n:=by omega
  have c2:¬2=K1.n:=by omega
  have m4:¬i2=0:=by omega
  have m5:¬i2=1:=by omega
  simp [a0,a1,a2,q1,c0,c1,c2]at b0 b1 b2 q2 o2
  have s2:=(s1.push).keep y2 x2.lim (by decide)
  simp [k2,k3,k6,e0,e1,b0,b1,b2,q2,m0,m1,m2,m3,m4,m5,v3,v4,hlow2]
  generalize hA:appendD _ _ _ _ _ _=A
  obtain ⟨i4,K3,rfl,o3,x3,y3,j3⟩:=o2.append (by simp [hlow2]) w2 n2 (by omega) hA (by simp;omega) (by decide)
  clear hA
  have d0:=x3.get 0 (by decide)
  have d2:=x3.get 2 (by decide)
  have q3:=x3.lim
  have w3:=x3.wf
  have n3:=x3.le
  have l3:0<K3.n:=by omega
  have l32:2<K3.n:=by omega
  rw [b0]at d0
  rw [b2]at d2
  rw [q2]at q3
  have s3:=s2.keep y3 x3.lim (by decide)
  have hlen:(List.take (lowIdx (fun b:Advert=>cmpID b.id ⟨c,d⟩) adv) (List.map eAdvert adv)++DV.agg [.int .i64 c,.int .i64 d,ePred p,.int .i64 q]::List.drop (lowIdx (fun b:Advert=>cmpID b.id ⟨c,d⟩) adv) (List.map eAdvert adv))=(insAt (fun a=>a.id) ⟨⟨c,d⟩,p,q⟩ adv).map eAdvert:=by simp [insAt,eAdvert]
  simp only [List.append_assoc,List.singleton_append]at o3
  rw [hlen]at o3
  have hmin2:min (lowIdx (fun b:Advert=>cmpID b.id ⟨c,d⟩) adv) adv.length=lowIdx (fun b:Advert=>cmpID b.id ⟨c,d⟩) adv:=by omega
  have hln:(insAt (fun a=>a.id) ⟨⟨c,d⟩,p,q⟩ adv).length=lowIdx (fun b:Advert=>cmpID b.id ⟨c,d⟩) adv+1+(adv.length-lowIdx (fun b:Advert=>cmpID b.id ⟨c,d⟩) adv):=by simp [insAt,hmin2];omega
  have r3:=fun o o'=>((o3.toR.setLow (o:=o) w3 (by decide) l3).setLow (o:=o') w3.set (by decide) l32).resolve (n:=198) false (fun y _=>(plain_advert y).1) (by decide)
  have r4:=fun o o'=>((s3.toR.setLow (o:=o) w3 (by decide) l3).setLow (o:=o') w3.set (by decide) l32).resolve (n:=198) false (fun y _=>(plain_id y).1) (by decide)
  simp only [List.length_map,hln]at r3
  simp only [List.length_map]at r4
  simp [k2,k3,k4,k5,e0,b0,d0,d2,q3,w3,l3,l32,turn,hmin2,v3,v4,m1,m4,r3,r4,resultsOf]
  simp [hR,learnB,hm,Tags.none,eBroker]
end Go.Dm.Tc
