/-
What functions of the program compute, part 13: is a constraint wider than another one?
-/
import Derived.Test.YtfnhanajiibciaaMs0
set_option linter.all false
namespace Go.Dm.Tc
def beginsS (s p:List UInt8):Bool:=decide (p.length≤s.length) && (s.take p.length == p)
def holdsT (c:Cons) (s:List UInt8):Bool:=if c.kind=2 then s == c.text else if c.kind=3 then beginsS s c.text else false
def widerC (c x:Cons):Bool :=
 if x.kind=1 then decide (c.kind=1) && decide (c.lo≤x.lo) && decide (x.hi≤c.hi)
 else if x.kind=3 then decide (c.kind=3) && beginsS x.text c.text
 else if x.kind=2 then holdsT c x.text
 else false
end Go.Dm.Tc
/-
What functions of the program compute,part 14: does a predicate cover another one?
-/
namespace Go.Dm.Tc
def Unlike (p:Pred):Prop:=p.Pairwise fun a b=>a.name≠b.name
def coversP (a b:Pred):Bool:=a.all fun c=>match b.find? (fun x=>decide (x.name=c.name)) with
 | some x=>widerC c x
 | none=>false
end Go.Dm.Tc
/-
What functions of the program compute,part 15: an entry's place;an entry found;a tree's entries.
-/
namespace Go.Dm.Tc
def sgnE (tree sub:ID) (e:Entry):Int:=if e.tree=tree∧e.sub=sub then 0 else if ltID e.tree tree=true∨(e.tree=tree∧ltID e.sub sub=true) then -1 else 1
theorem ltID_iff {a b:ID}:ltID a b=true↔a.client<b.client∨a.client=b.client∧a.seq<b.seq:=by
 unfold ltID;rw [decide_eq_true_iff,cmpID_lt]
theorem ID.ext' {a b:ID}:a=b↔a.client=b.client∧a.seq=b.seq:=by cases a;cases b;simp
theorem sgnE_lt {tree sub:ID} {e:Entry}:sgnE tree sub e<0↔ltID e.tree tree=true∨(e.tree=tree∧ltID e.sub sub=true):=by
 unfold sgnE
 split
 ·rename_i h
  rw [h.1,h.2,ltID_iff,ltID_iff]
  constructor
  ·intro q;omega
  ·rintro (q|⟨_,q⟩)<;>omega
 ·split
  ·rename_i h;exact ⟨fun _=>h,fun _=>by decide⟩
  ·rename_i h;exact ⟨fun q=>by omega,fun q=>absurd q h⟩
theorem sgnE_eq {tree sub:ID} {e:Entry}:sgnE tree sub e=0↔e.tree=tree∧e.sub=sub:=by
 unfold sgnE
 split
 ·rename_i h;exact ⟨fun _=>h,fun _=>rfl⟩
 ·rename_i h
  split<;>exact ⟨fun q=>by omega,fun q=>absurd q h⟩
theorem ltE_sgn (a b:Entry):ltE a b=true↔sgnE b.tree b.sub a<0:=by
 rw [sgnE_lt,ltID_iff,ltID_iff]
 unfold ltE cmpE orI
 rw [decide_eq_true_iff]
 split
 ·rename_i h
  rw [cmpID_eq]at h
  rw [cmpID_lt,h]
  constructor
  ·intro q;exact .inr ⟨rfl,q⟩
  ·rintro (q|⟨_,q⟩)
   ·omega
   ·exact q
 ·rename_i h
  rw [cmpID_eq]at h
  rw [cmpID_lt]
  constructor
  ·intro q;exact .inl q
  ·rintro (q|⟨q,_⟩)
   ·exact q
   ·exact absurd q h
def RisingE (l:List Entry):Prop:=l.Pairwise fun a b=>sgnE b.tree b.sub a<0
theorem sgnE_trans {t s:ID} {a b:Entry} (h1:sgnE b.tree b.sub a<0) (h2:sgnE t s b≤0):sgnE t s a<0:=by
 rw [sgnE_lt,ltID_iff,ltID_iff]at *
 by_cases h0:sgnE t s b=0
 ·rw [sgnE_eq]at h0
  rw [h0.1,h0.2]at h1
  exact h1
 ·have h3:sgnE t s b<0:=by omega
  rw [sgnE_lt,ltID_iff,ltID_iff]at h3
  rw [ID.ext']at *
  omega
theorem monoE {l:List Entry} (h:RisingE l) (t s:ID):∀i j (hi:i<l.length) (hj:j<l.length),i≤j→sgnE t s l[j]<0→sgnE t s l[i]<0:=by
 intro i j hi hj hij hlt
 rcases Nat.lt_or_eq_of_le hij with hl|rfl
 ·exact sgnE_trans (List.pairwise_iff_getElem.1 h i j hi hj hl) (by omega)
 ·exact hlt
theorem of_risesE:∀{l:List Entry},RisingE l→risesB ltE l=true
 | [],_=>rfl
 | [a],_=>rfl
 | a::b::r,h=>by
  unfold RisingE at h
  rw [List.pairwise_cons]at h
  simp only [risesB,Bool.and_eq_true]
  exact ⟨(ltE_sgn a b).2 (h.1 b (List.mem_cons_self ..)),of_risesE (l:=b::r) h.2⟩
def isE (tree sub:ID) (e:Entry):Bool:=decide (e.tree=tree∧e.sub=sub)
end Go.Dm.Tc
/-
What functions of the program compute,part 16: an entry found;a tree's entries;is a predicate covered?
-/
namespace Go.Dm.Tc
def ofT (tree:ID) (l:List Entry):List Entry:=l.filter fun e=>decide (e.tree=tree)
def coveredB (l:List Entry) (tree:ID) (p:Pred):Bool:=(ofT tree l).any fun e=>e.up && coversP e.pred p
end Go.Dm.Tc
/-
What functions of the program compute,part 17: is a broker tight?
-/
namespace Go.Dm.Tc
def parentOf (b:Broker) (x:ID):Int:=((b.adverts.find? fun a=>a.id=x).getD advZero).parent
def tightE (b:Broker) (e:Entry):Bool:=e.up || decide (parentOf b e.tree=-1) || coveredB b.entries e.tree e.pred
def tightB (b:Broker):Bool:=b.entries.all (tightE b)
structure AskedP (b:Broker):Prop where
 unl:∀e∈b.entries,Unlike e.pred
 len:∀e∈b.entries,e.pred.length≤1000000
end Go.Dm.Tc
/-
What the reference's functions compute,part 4: an entry's place;is a predicate covered?
-/
namespace Go.Dm.Tc
end Go.Dm.Tc
/-
What the reference's functions compute,part 5: does a predicate cover another one? is it covered?
-/
namespace Go.Dm.Tc
end Go.Dm.Tc
/-
Plain laws,part 3: names of right predicates are unlike;the two coverings are alike. The reference's Covered.
-/
namespace Go.Dm.Tc
theorem rightA_each:∀{p:Pred} {prev:Option (List UInt8)},rightA prev p=true→∀c∈p,rightOne c=true
 | [],_,_,_,h=>by cases h
 | c::r,prev,h,d,hd=>by
  simp only [rightA,Bool.and_eq_true]at h
  rcases List.mem_cons.1 hd with rfl|hd
  ·exact h.1.1
  ·exact rightA_each h.2 d hd
theorem PredOk.each {p:Pred} (h:PredOk p):∀c∈p,rightOne c=true:=by
 have:=h.right
 unfold rightP at this
 rw [Bool.and_eq_true]at this
 exact rightA_each this.1
theorem PredOk.nil:PredOk []:=⟨rfl,⟨by decide,fun c h=>by cases h⟩,by decide⟩
end Go.Dm.Tc
/-
What functions of the program compute,part 18: an entry added.
-/
namespace Go.Dm.Tc
def insE (e:Entry) (l:List Entry):List Entry:=l.take (lowIdx (sgnE e.tree e.sub) l)++e::l.drop (lowIdx (sgnE e.tree e.sub) l)
def mayAdd (b:Broker) (e:Entry):Bool :=
 match b.adverts.find? (fun a=>a.id=e.tree) with
 | none=>false
 | some a=>!(b.entries.any (isE e.tree e.sub)) && !(decide (e.frm=a.parent) && !decide (a.parent=-1))
def upOf (b:Broker) (e:Entry):Bool:=!decide (parentOf b e.tree=-1) && !coveredB b.entries e.tree e.pred
def addB (b:Broker) (e:Entry):Broker×Bool :=
 if mayAdd b e=true then ({b with entries:=insE {e with up:=upOf b e} b.entries},upOf b e) else (b,false)
end Go.Dm.Tc
/-
What the reference's functions compute,part 6: an entry added.
-/
namespace Go.Dm.Tc
end Go.Dm.Tc
/-
What the reference's functions compute,part 7: an entry added,all of it.
-/
namespace Go.Dm.Tc
end Go.Dm.Tc
/-
Two rows of one element type side by side: what is put behind one leaves the other one alone.
-/
namespace Go.Dm.Tc
def NotAt (v:DV) (k:Nat):Prop:=∀sz off len,v≠.sl k sz off len
theorem append_frame {lo:Nat} {h:Heap} {v:DV} {ety sz bytes:Nat} {xs ys:List DV} {A:Option (DV×Heap)} (w:OwnR lo h v ety sz xs) (wf:WF h) (hlo:lo≤h.n) (hlim:h.lim≤h.n) (hA:appendD h ety sz bytes v ys=A)
  (hb:(xs.length+ys.length)*bytes≤140737488355328) (hb1:1≤bytes) :
  ∃ v' h',A=some (v',h')∧OwnR lo h' v' ety sz (xs++ys)∧Ext lo h h'∧(∀k,k<h.n→NotAt v k→h'.get k=h.get k)∧(∀k,k<h.n→NotAt v k→NotAt v' k):=by
 have hm:xs.length+ys.length≤140737488355328:=Nat.le_trans (Nat.le_mul_of_pos_right _ hb1) hb
 by_cases hy:ys=[]
 ·subst hy
  refine ⟨v,h,?_,by simpa using w,.refl hlo wf,fun _ _ _=>rfl,fun _ _ q=>q⟩
  rw [←hA]
  cases w with
  | nil hv hx=>subst hv;rfl
  | arr id sp cap hv hg _ _=>subst hv;rfl
 ·have hye:ys.isEmpty=false:=by cases ys<;>simp_all
  have hyl:0<ys.length:=List.length_pos_iff.2 hy
  cases w with
  | nil hv hx =>
   subst hv;subst hx
   simp only [List.length_nil,Nat.zero_add]at hb hm
   refine ⟨.sl h.n sz 0 ys.length,h.push (.arr ety sz ys none),?_,.arr h.n [] none rfl (by simp [get_push]) (by exact hlim) hlo,(Ext.refl hlo wf).push,fun k hk _=>by rw [get_push,if_neg (by omega)],fun k hk _ sz' off' len' e=>by injection e;omega⟩
   rw [←hA]
   simp only [appendD,hye]
   rw [if_neg (by simp),if_pos ⟨hb,by omega⟩]
  | arr id sp cap hv hg hl hi =>
   subst hv
   have hlt:=get_some_lt hg
   have hne:∀k,NotAt (.sl id sz 0 xs.length) k→k≠id:=fun k q e=>by subst e;exact q _ _ _ rfl
   by_cases hin:xs.length+ys.length≤(xs++sp).length
   ·refine ⟨.sl id sz 0 (xs.length+ys.length),h.set id (.arr ety sz (splice (xs++sp) ys xs.length) cap),?_,.arr id (sp.drop ys.length) cap (by simp) ?_ (by exact hl) hi,(Ext.refl hlo wf).set hi hlt,fun k _ q=>by rw [get_set wf hlt,if_neg (hne k q)],fun k _ q sz' off' len' e=>by injection e with e1;exact hne k q e1.symm⟩
    ·rw [←hA];exact appendD_in hg hin hl hb hb1 hy
    ·rw [get_set wf hlt,if_pos rfl]
     simp only [splice,List.take_left',List.append_assoc]
     congr 3
     rw [List.drop_append]
     simp
   ·cases cap with
    | none =>
     refine ⟨.sl h.n sz 0 (xs.length+ys.length),(h.set id .dead).push (.arr ety sz (xs++ys) none),?_,.arr h.n [] none (by simp) ?_ (by exact hlim) hlo,((Ext.refl hlo wf).set hi hlt).push,fun k hk q=>by rw [get_push,if_neg (by show ¬k=h.n;omega),get_set wf hlt,if_neg (hne k q)],fun k hk _ sz' off' len' e=>by injection e;omega⟩
     ·rw [←hA]
      simp only [appendD,hye,hg]
      simp only [Bool.false_eq_true,if_false,true_and,Nat.zero_add,List.drop_zero]
      rw [if_pos ⟨by simp,hb,by omega⟩,if_neg hin,if_pos hl]
      simp
     ·simpa using get_push_new (h:=h.set id .dead)
    | some c =>
     refine ⟨.sl h.n sz 0 (xs.length+ys.length),h.push (.arr ety sz (xs++ys) none),?_,.arr h.n [] none (by simp) ?_ (by exact hlim) hlo,(Ext.refl hlo wf).push,fun k hk _=>by rw [get_push,if_neg (by omega)],fun k hk _ sz' off' len' e=>by injection e;omega⟩
     ·rw [←hA]
      rw [appendD_new hg (by simp) (by omega) hb hb1 hy]
      simp
     ·simpa using get_push_new (h:=h)
def takeL (tree:ID):List Entry→List Entry→List Entry→List Entry×List Entry
 | done,[],ups=>(done,ups)
 | done,e::r,ups=>if e.tree=tree∧e.up=false∧coveredB (done++e::r) tree e.pred=false then takeL tree (done++[{e with up:=true}]) r (ups++[{e with up:=true}]) else takeL tree (done++[e]) r ups
def takeB (b : Broker) (tree sub : ID) (frm : Int) : Broker × List Entry × Bool :=
  match b.entries.find? (isE tree sub) with
  | none => (b, [], false)
  | some e => if e.frm = frm then
      (if e.up = true then ({ b with entries := (takeL tree [] (b.entries.filter fun x => !isE tree sub x) []).1 }, (takeL tree [] (b.entries.filter fun x => !isE tree sub x) []).2, true)
       else ({ b with entries := b.entries.filter fun x => !isE tree sub x }, [], false))
    else (b, [], false)
end Go.Dm.Tc
/-
What functions of the program compute,part 19: an entry taken out (the loop).
-/
namespace Go.Dm.Tc
end Go.Dm.Tc
/-
What functions of the program compute,part 20: an entry taken out.
-/
namespace Go.Dm.Tc
end Go.Dm.Tc
/-
What the reference's functions compute,part 8: an entry taken out (the loop).
-/
namespace Go.Dm.Tc
end Go.Dm.Tc
/-
What the reference's functions compute,part 9: an entry taken out.
-/
namespace Go.Dm.Tc
end Go.Dm.Tc
/-
What every broker keeps that calls made: plain laws (learned,forgotten,added,taken out).
-/
namespace Go.Dm.Tc
theorem find_key {α:Type} (key:α→ID) {l:List α} (h:Rising (l.map key)) (x:ID) (a:α):l.find? (fun b=>decide (key b=x))=some a↔a∈l∧key a=x:=by
 constructor
 ·intro hf
  exact ⟨List.mem_of_find?_eq_some hf,by simpa using List.find?_some hf⟩
 ·rintro ⟨hm,hk⟩
  cases hf:l.find? (fun b=>decide (key b=x)) with
  | none=>exact absurd hk (by have:=List.find?_eq_none.1 hf a hm;simpa using this)
  | some b =>
   have hb:=List.mem_of_find?_eq_some hf
   have hkb:key b=x:=by simpa using List.find?_some hf
   have:b=a:=by
    by_cases e:b=a
    ·exact e
    ·exfalso
     unfold Rising at h
     rw [List.pairwise_map]at h
     obtain ⟨i,hi,rfl⟩:=List.mem_iff_getElem.1 hb
     obtain ⟨j,hj,rfl⟩:=List.mem_iff_getElem.1 hm
     rcases Nat.lt_trichotomy i j with hlt|he|hlt
     ·have:=List.pairwise_iff_getElem.1 h i j hi hj hlt
      rw [hkb,hk,cmpID_lt]at this;omega
     ·subst he;exact e rfl
     ·have:=List.pairwise_iff_getElem.1 h j i hj hi hlt
      rw [hkb,hk,cmpID_lt]at this;omega
   rw [this]
theorem find_key_none {α:Type} (key:α→ID) {l:List α} (x:ID):l.find? (fun b=>decide (key b=x))=none↔∀a∈l,key a≠x:=by
 rw [List.find?_eq_none]
 exact ⟨fun h a ha=>by simpa using h a ha,fun h a ha=>by simpa using h a ha⟩
theorem advOf_some {b:Broker} (h:Rising (b.adverts.map (·.id))) {x:ID} {a:Advert}:advOf b x=some a↔a∈b.adverts∧a.id=x:=find_key (fun a:Advert=>a.id) h x a
theorem advOf_none {b:Broker} {x:ID}:advOf b x=none↔∀a∈b.adverts,a.id≠x:=find_key_none (fun a:Advert=>a.id) x
theorem parentOf_eq (b:Broker) (x:ID):parentOf b x=((advOf b x).getD advZero).parent:=rfl
theorem coveredB_iff {l:List Entry} {t:ID} {p:Pred}:coveredB l t p=true↔∃ e∈l,e.tree=t∧e.up=true∧coversP e.pred p=true:=by
 unfold coveredB ofT
 rw [List.any_eq_true]
 constructor
 ·rintro ⟨e,he,h⟩
  have:=List.mem_filter.1 he
  rw [Bool.and_eq_true]at h
  exact ⟨e,this.1,by simpa using this.2,h.1,h.2⟩
 ·rintro ⟨e,he,h1,h2,h3⟩
  exact ⟨e,List.mem_filter.2 ⟨he,by simpa using h1⟩,by rw [h2,h3];rfl⟩
theorem insE_mem {e x:Entry} {l:List Entry}:x∈insE e l↔x=e∨x∈l:=by
 unfold insE
 rw [List.mem_append,List.mem_cons]
 constructor
 ·rintro (h|h|h)
  ·exact .inr (List.mem_of_mem_take h)
  ·exact .inl h
  ·exact .inr (List.mem_of_mem_drop h)
 ·rintro (h|h)
  ·exact .inr (.inl h)
  ·rw [←List.take_append_drop (lowIdx (sgnE e.tree e.sub) l) l,List.mem_append]at h
   exact h.elim .inl fun h=>.inr (.inr h)
theorem insE_len (e:Entry) (l:List Entry):(insE e l).length=l.length+1:=by
 unfold insE
 rw [List.length_append,List.length_cons,List.length_take,List.length_drop]
 have:=lowIdx_le (sgnE e.tree e.sub) l
 omega
theorem sgnE_gt {t s:ID} {a:Entry} (h1:¬sgnE t s a<0) (h2:¬(a.tree=t∧a.sub=s)) (e:Entry) (he:e.tree=t) (he2:e.sub=s):sgnE a.tree a.sub e<0:=by
 rw [sgnE_lt,ltID_iff,ltID_iff]at *
 rw [he,he2]
 rw [ID.ext',ID.ext']at h2
 rw [ID.ext']at *
 omega
theorem insE_rising {e:Entry} {l:List Entry} (h:RisingE l) (hn:∀x∈l,isE e.tree e.sub x=false):RisingE (insE e l):=by
 unfold RisingE insE
 rw [List.pairwise_append,List.pairwise_cons]
 generalize hk:lowIdx (sgnE e.tree e.sub) l=k
 have hlow:∀b∈l.take k,sgnE e.tree e.sub b<0:=by
  intro b hb
  obtain ⟨i,hi,rfl⟩:=List.mem_iff_getElem.1 hb
  rw [List.getElem_take]
  rw [List.length_take]at hi
  have:=List.not_of_lt_findIdx (p:=fun x=>!decide (sgnE e.tree e.sub x<0)) (xs:=l) (i:=i) (by unfold lowIdx at hk;omega)
  simpa using this
 have hhigh:∀b∈l.drop k,sgnE b.tree b.sub e<0:=by
  intro b hb
  obtain ⟨i,hi,rfl⟩:=List.mem_iff_getElem.1 hb
  rw [List.length_drop]at hi
  rw [List.getElem_drop]
  have hkl:k<l.length:=by omega
  have h1:¬sgnE e.tree e.sub l[k]<0:=by
   have:=List.findIdx_getElem (p:=fun x=>!decide (sgnE e.tree e.sub x<0)) (xs:=l) (w:=by unfold lowIdx at hk;omega)
   have hk':List.findIdx (fun x=>!decide (sgnE e.tree e.sub x<0)) l=k:=hk
   simp only [hk']at this
   simpa using this
  have h2:¬sgnE e.tree e.sub l[k+i]<0:=fun hc=>h1 (monoE h _ _ k (k+i) hkl (by omega) (by omega) hc)
  refine sgnE_gt h2 ?_ e rfl rfl
  have:=hn l[k+i] (List.getElem_mem _)
  simpa [isE] using this
 refine ⟨h.sublist (List.take_sublist ..),⟨fun b hb=>hhigh b hb,h.sublist (List.drop_sublist ..)⟩,?_⟩
 intro x hx y hy
 rcases List.mem_cons.1 hy with rfl|hy
 ·exact hlow x hx
 ·exact sgnE_trans (hlow x hx) (by have:=hhigh y hy;omega)
structure InvK (b:Broker):Prop where
 near:risesB (fun x y=>decide (x<y)) b.near=true
 loc:∀x∈b.near,0≤x
 ra:Rising (b.adverts.map (·.id))
 rs:Rising b.seen
 ro:Rising (b.owns.map (·.id))
 re:RisingE b.entries
 sub:∀a∈b.adverts,a.id∈b.seen
 par:∀a∈b.adverts,linkB b a.parent=true
 pa:∀a∈b.adverts,PredOk a.pred
 po:∀o∈b.owns,PredOk o.pred
 ent:∀e∈b.entries,rightEnt b e=true
 pe:∀e∈b.entries,PredOk e.pred
 tight:tightB b=true
structure SzK (b:Broker) (n:Nat):Prop where
 near:b.near.length≤1000
 adv:b.adverts.length≤n
 seen:b.seen.length≤n
 own:b.owns.length≤n
 ent:b.entries.length≤n*n
theorem SzK.sized {b:Broker} {n:Nat} (h:SzK b n) (hn:n≤300):Sized b:=by
 have:=Nat.mul_le_mul hn hn
 obtain ⟨h1,h2,h3,h4,h5⟩:=h
 exact ⟨by omega,by omega,by omega,by omega,by omega⟩
theorem SzK.mono {b:Broker} {n m:Nat} (h:SzK b n) (hn:n≤m):SzK b m:=by
 have:=Nat.mul_le_mul hn hn
 obtain ⟨h1,h2,h3,h4,h5⟩:=h
 exact ⟨h1,by omega,by omega,by omega,by omega⟩
theorem InvK.sizedP {b:Broker} (h:InvK b):SizedP b:=⟨fun a ha=>(h.pa a ha).names.1,fun a ha=>(h.pe a ha).names.1,fun a ha=>(h.po a ha).names.1⟩
theorem InvK.sizedN {b:Broker} (h:InvK b):SizedN b:=⟨fun a ha=>(h.pa a ha).names,fun a ha=>(h.pe a ha).names,fun a ha=>(h.po a ha).names⟩
theorem InvK.right {b:Broker} (h:InvK b):rightB b=true:=by
 unfold rightB rightRows
 rw [h.near,of_rising (key:=fun a:Advert=>a.id) h.ra,of_rising (key:=fun a:OwnS=>a.id) h.ro,of_risesE h.re,show risesB (fun x y=>ltID x y) b.seen=true from of_rising (key:=fun a:ID=>a) (by simpa using h.rs)]
 have h1:(b.adverts.any fun a=>!rightAdv b a)=false:=by
  rw [List.any_eq_false]
  intro a ha
  simp [rightAdv,h.sub a ha,h.par a ha,(h.pa a ha).right]
 have h2:(b.entries.any fun e=>!rightEnt b e)=false:=by
  rw [List.any_eq_false]
  intro e he
  simp [h.ent e he]
 have h3:(b.owns.any fun o=>!rightP o.pred)=false:=by
  rw [List.any_eq_false]
  intro o ho
  simp [(h.po o ho).right]
 rw [h1,h2,h3]
 rfl
theorem rightEnt_iff {b:Broker} {e:Entry}:rightEnt b e=true↔∃ a,advOf b e.tree=some a∧linkB b e.frm=true∧(e.frm=a.parent→a.parent=-1)∧(e.up=true→a.parent≠-1)∧rightP e.pred=true:=by
 unfold rightEnt advOf
 cases b.adverts.find? (fun a=>a.id=e.tree) with
 | none=>simp
 | some a =>
  simp only [Option.some.injEq,exists_eq_left',Bool.and_eq_true,Bool.or_eq_true,Bool.not_eq_true',Bool.and_eq_false_iff,decide_eq_true_eq,decide_eq_false_iff_not]
  constructor
  ·rintro ⟨⟨⟨h1,h2⟩,h3⟩,h4⟩
   exact ⟨h1,fun q=>h2.resolve_left (fun hn=>hn q),fun q=>h3.resolve_left (by rw [q];decide),h4⟩
  ·rintro ⟨h1,h2,h3,h4⟩
   refine ⟨⟨⟨h1,?_⟩,?_⟩,h4⟩
   ·by_cases q:e.frm=a.parent
    ·exact .inr (h2 q)
    ·exact .inl q
   ·cases q:e.up with
    | false=>exact .inl rfl
    | true=>exact .inr (h3 q)
theorem tightB_iff {b:Broker}:tightB b=true↔∀e∈b.entries,e.up=true∨parentOf b e.tree=-1∨coveredB b.entries e.tree e.pred=true:=by
 unfold tightB
 rw [List.all_eq_true]
 simp only [tightE,Bool.or_eq_true,decide_eq_true_eq,or_assoc]
theorem linkB_near {b b':Broker} (h:b'.near=b.near) (n:Int):linkB b' n=linkB b n:=by unfold linkB;rw [h]
theorem rightEnt_same {b b':Broker} {e:Entry} (h:b'.near=b.near) (ha:advOf b' e.tree=advOf b e.tree):rightEnt b' e=rightEnt b e:=by
 rw [Bool.eq_iff_iff,rightEnt_iff,rightEnt_iff,ha]
 simp only [linkB_near h]
theorem InvK.start {me:Int} {near:List Int} (hn:risesB (fun x y=>decide (x<y)) near=true) (hl:∀x∈near,0≤x):InvK ⟨me,near,[],[],[],[]⟩ :=
 ⟨hn,hl,.nil,.nil,.nil,.nil,fun a h=>(by cases h),fun a h=>(by cases h),fun a h=>(by cases h),fun a h=>(by cases h),fun a h=>(by cases h),fun a h=>(by cases h),rfl⟩
theorem SzK.start {me:Int} {near:List Int} (hn:near.length≤1000):SzK ⟨me,near,[],[],[],[]⟩ 0:=⟨hn,Nat.le_refl _,Nat.le_refl _,Nat.le_refl _,Nat.le_refl _⟩
theorem advOf_learn {b:Broker} (h:InvK b) (a:Advert) (hn:a.id ∉ b.seen) (x:ID):advOf (learnB b a).1 x=if a.id=x then some a else advOf b x:=by
 have hnew:∀c∈b.adverts,c.id≠a.id:=fun c hc e=>hn (by rw [←e];exact h.sub c hc)
 have hr:Rising ((learnB b a).1.adverts.map (·.id)):=by
  unfold learnB;rw [if_neg hn]
  exact ins_rising (fun a:Advert=>a.id) a h.ra hnew
 have hm:∀c,c∈(learnB b a).1.adverts↔c=a∨c∈b.adverts:=by
  intro c
  unfold learnB;rw [if_neg hn]
  exact ins_mem (fun a:Advert=>a.id) a b.adverts c
 by_cases e:a.id=x
 ·rw [if_pos e,advOf_some hr,hm];exact ⟨.inl rfl,e⟩
 ·rw [if_neg e]
  cases hq:advOf b x with
  | none =>
   rw [advOf_none]at hq ⊢
   intro c hc
   rcases (hm c).1 hc with rfl|hc
   ·exact e
   ·exact hq c hc
  | some c =>
   rw [advOf_some h.ra]at hq
   rw [advOf_some hr,hm]
   exact ⟨.inr hq.1,hq.2⟩
theorem InvK.learn {b:Broker} (h:InvK b) {a:Advert} (hp:linkB b a.parent=true) (hr:PredOk a.pred):InvK (learnB b a).1:=by
 by_cases hn:a.id∈b.seen
 ·unfold learnB;rw [if_pos hn];exact h
 ·have ho:=advOf_learn h a hn
  have hE:(learnB b a).1.entries=b.entries:=by unfold learnB;rw [if_neg hn]
  have hN:(learnB b a).1.near=b.near:=by unfold learnB;rw [if_neg hn]
  have hO:(learnB b a).1.owns=b.owns:=by unfold learnB;rw [if_neg hn]
  have hA:(learnB b a).1.adverts=insAt (fun a=>a.id) a b.adverts:=by unfold learnB;rw [if_neg hn]
  have hS:(learnB b a).1.seen=insAt (fun x=>x) a.id b.seen:=by unfold learnB;rw [if_neg hn]
  have hother:∀e∈b.entries,advOf (learnB b a).1 e.tree=advOf b e.tree:=by
   intro e he
   rw [ho,if_neg]
   intro hc
   obtain ⟨c,hc1,_⟩:=rightEnt_iff.1 (h.ent e he)
   rw [advOf_some h.ra]at hc1
   exact hn (by rw [hc,←hc1.2];exact h.sub c hc1.1)
  refine ⟨by rw [hN];exact h.near,by rw [hN];exact h.loc,?_,?_,by rw [hO];exact h.ro,by rw [hE];exact h.re,?_,?_,?_,by rw [hO];exact h.po,?_,by rw [hE];exact h.pe,?_⟩
  ·rw [hA];exact ins_rising (fun a:Advert=>a.id) a h.ra fun c hc e=>hn (by rw [←e];exact h.sub c hc)
  ·rw [hS]
   have:=ins_rising (fun x:ID=>x) a.id (l:=b.seen) (by simpa using h.rs) (fun c hc e=>hn (by rw [←e];exact hc))
   simpa using this
  ·intro c hc
   rw [hA,ins_mem]at hc
   rw [hS,ins_mem]
   rcases hc with rfl|hc
   ·exact .inl rfl
   ·exact .inr (h.sub c hc)
  ·intro c hc
   rw [linkB_near hN]
   rw [hA,ins_mem]at hc
   rcases hc with rfl|hc
   ·exact hp
   ·exact h.par c hc
  ·intro c hc
   rw [hA,ins_mem]at hc
   rcases hc with rfl|hc
   ·exact hr
   ·exact h.pa c hc
  ·intro e he
   rw [hE]at he
   rw [rightEnt_same hN (hother e he)];exact h.ent e he
  ·rw [tightB_iff,hE]
   intro e he
   rw [parentOf_eq,hother e he,←parentOf_eq]
   exact tightB_iff.1 h.tight e he
theorem SzK.learn {b:Broker} {n:Nat} (h:SzK b n) (a:Advert):SzK (learnB b a).1 (n+1):=by
 have h':=h.mono (Nat.le_succ n)
 unfold learnB
 split
 ·exact h'
 ·obtain ⟨h1,h2,h3,h4,h5⟩:=h'
  exact ⟨h1,by simp only [ins_len];have:=h.adv;omega,by simp only [ins_len];have:=h.seen;omega,h4,h5⟩
theorem mayAdd_iff {b:Broker} {e:Entry}:mayAdd b e=true↔∃ a,advOf b e.tree=some a∧(∀x∈b.entries,isE e.tree e.sub x=false)∧(e.frm=a.parent→a.parent=-1):=by
 unfold mayAdd advOf
 cases b.adverts.find? (fun a=>a.id=e.tree) with
 | none=>simp
 | some a =>
  simp only [Option.some.injEq,exists_eq_left',Bool.and_eq_true,Bool.not_eq_true',Bool.and_eq_false_iff,List.any_eq_false,Bool.not_eq_true,decide_eq_false_iff_not,Bool.not_eq_false',decide_eq_true_eq]
  refine and_congr Iff.rfl ⟨fun h q=>h.resolve_left (fun hn=>hn q),fun h=>?_⟩
  by_cases q:e.frm=a.parent
  ·exact .inr (h q)
  ·exact .inl q
theorem covered_mono {l l':List Entry} {t:ID} {p:Pred} (h:∀e∈l,e∈l') (hc:coveredB l t p=true):coveredB l' t p=true:=by
 rw [coveredB_iff]at *
 obtain ⟨e,he,h2⟩:=hc
 exact ⟨e,h e he,h2⟩
theorem InvK.add {b:Broker} (h:InvK b) {e:Entry} (hl:linkB b e.frm=true) (hp:PredOk e.pred):InvK (addB b e).1:=by
 by_cases hm:mayAdd b e=true
 ·obtain ⟨a,ha,hno,hfp⟩:=mayAdd_iff.1 hm
  unfold addB
  rw [if_pos hm]
  have hpar:parentOf b e.tree=a.parent:=by rw [parentOf_eq,ha];rfl
  refine ⟨h.near,h.loc,h.ra,h.rs,h.ro,?_,h.sub,h.par,h.pa,h.po,?_,?_,?_⟩
  ·exact insE_rising (e:={e with up:=upOf b e}) h.re hno
  ·intro x hx
   rw [insE_mem]at hx
   have hs:∀y,rightEnt {b with entries:=insE {e with up:=upOf b e} b.entries} y=rightEnt b y:=fun y=>rightEnt_same rfl rfl
   rw [hs]
   rcases hx with rfl|hx
   ·rw [rightEnt_iff]
    refine ⟨a,ha,hl,hfp,?_,hp.right⟩
    intro hu hpp
    simp only [upOf,hpar,hpp]at hu
    simp at hu
   ·exact h.ent x hx
  ·intro x hx
   rw [insE_mem]at hx
   rcases hx with rfl|hx
   ·exact hp
   ·exact h.pe x hx
  ·rw [tightB_iff]
   intro x hx
   have hs:∀y,parentOf {b with entries:=insE {e with up:=upOf b e} b.entries} y=parentOf b y:=fun y=>rfl
   rw [hs]
   have hx':=hx
   rw [insE_mem]at hx
   rcases hx with rfl|hx
   ·by_cases hpp:a.parent=-1
    ·exact .inr (.inl (by rw [hpar,hpp]))
    ·cases hcv:coveredB b.entries e.tree e.pred with
     | true=>exact .inr (.inr (covered_mono (fun y hy=>insE_mem.2 (.inr hy)) hcv))
     | false=>left;simp [upOf,hpar,hpp,hcv]
   ·rcases tightB_iff.1 h.tight x hx with h1|h1|h1
    ·exact .inl h1
    ·exact .inr (.inl h1)
    ·exact .inr (.inr (covered_mono (fun y hy=>insE_mem.2 (.inr hy)) h1))
 ·unfold addB
  rw [if_neg hm];exact h
inductive Raised (t:ID):List Entry→List Entry→Prop where
 | nil:Raised t [] []
 | keep (e:Entry) {l l':List Entry} (h:Raised t l l'):Raised t (e::l) (e::l')
 | up (e:Entry) {l l':List Entry} (ht:e.tree=t) (hu:e.up=false) (h:Raised t l l'):Raised t (e::l) ({e with up:=true}::l')
theorem Raised.refl (t:ID):∀l,Raised t l l
 | []=>.nil
 | e::l=>.keep e (Raised.refl t l)
theorem Raised.append {t:ID} {a a' b b':List Entry} (h:Raised t a a') (k:Raised t b b'):Raised t (a++b) (a'++b'):=by
 induction h with
 | nil=>exact k
 | keep e _ ih=>exact .keep e ih
 | up e ht hu _ ih=>exact .up e ht hu ih
theorem Raised.len {t:ID} {a a':List Entry} (h:Raised t a a'):a'.length=a.length:=by
 induction h with
 | nil=>rfl
 | keep e _ ih=>simp [ih]
 | up e ht hu _ ih=>simp [ih]
theorem Raised.mem {t:ID} {a a':List Entry} (h:Raised t a a') {x:Entry} (hx:x∈a'):x∈a∨∃ e∈a,e.tree=t∧e.up=false∧x={e with up:=true}:=by
 induction h with
 | nil=>cases hx
 | keep e _ ih =>
  rcases List.mem_cons.1 hx with rfl|hx
  ·exact .inl (List.mem_cons_self ..)
  ·rcases ih hx with h|⟨y,hy,h⟩
   ·exact .inl (List.mem_cons_of_mem _ h)
   ·exact .inr ⟨y,List.mem_cons_of_mem _ hy,h⟩
 | up e ht hu _ ih =>
  rcases List.mem_cons.1 hx with rfl|hx
  ·exact .inr ⟨e,List.mem_cons_self ..,ht,hu,rfl⟩
  ·rcases ih hx with h|⟨y,hy,h⟩
   ·exact .inl (List.mem_cons_of_mem _ h)
   ·exact .inr ⟨y,List.mem_cons_of_mem _ hy,h⟩
theorem Raised.of_mem {t:ID} {a a':List Entry} (h:Raised t a a') {x:Entry} (hx:x∈a):x∈a'∨(x.tree=t∧x.up=false∧{x with up:=true}∈a'):=by
 induction h with
 | nil=>cases hx
 | keep e _ ih =>
  rcases List.mem_cons.1 hx with rfl|hx
  ·exact .inl (List.mem_cons_self ..)
  ·rcases ih hx with h|⟨h1,h2,h3⟩
   ·exact .inl (List.mem_cons_of_mem _ h)
   ·exact .inr ⟨h1,h2,List.mem_cons_of_mem _ h3⟩
 | up e ht hu _ ih =>
  rcases List.mem_cons.1 hx with rfl|hx
  ·exact .inr ⟨ht,hu,List.mem_cons_self ..⟩
  ·rcases ih hx with h|⟨h1,h2,h3⟩
   ·exact .inl (List.mem_cons_of_mem _ h)
   ·exact .inr ⟨h1,h2,List.mem_cons_of_mem _ h3⟩
theorem Raised.rising {t:ID} {a a':List Entry} (h:Raised t a a') (hr:RisingE a):RisingE a':=by
 induction h with
 | nil=>exact hr
 | keep e h ih =>
  unfold RisingE at *
  rw [List.pairwise_cons]at *
  refine ⟨fun x hx=>?_,ih hr.2⟩
  rcases h.mem hx with hx|⟨y,hy,_,_,rfl⟩
  ·exact hr.1 x hx
  ·exact hr.1 y hy
 | up e ht hu h ih =>
  unfold RisingE at *
  rw [List.pairwise_cons]at *
  refine ⟨fun x hx=>?_,ih hr.2⟩
  have:∀t s,sgnE t s {e with up:=true}=sgnE t s e:=fun t s=>rfl
  rw [this]
  rcases h.mem hx with hx|⟨y,hy,_,_,rfl⟩
  ·exact hr.1 x hx
  ·exact hr.1 y hy
theorem Raised.covered {t:ID} {a a':List Entry} (h:Raised t a a') {t':ID} {p:Pred} (hc:coveredB a t' p=true):coveredB a' t' p=true:=by
 rw [coveredB_iff]at *
 obtain ⟨e,he,h1,h2,h3⟩:=hc
 rcases h.of_mem he with hx|⟨_,hx,_⟩
 ·exact ⟨e,hx,h1,h2,h3⟩
 ·rw [h2]at hx;cases hx
theorem takeL_raised (t:ID):∀(rest done ups:List Entry),∃ r',(takeL t done rest ups).1=done++r'∧Raised t rest r'∧(∀x∈r',x.tree=t→x.up=true∨coveredB (done++r') t x.pred=true) ∧
  ∃ u',(takeL t done rest ups).2=ups++u'∧∀x∈u',x∈r'∧x.tree=t∧x.up=true∧{x with up:=false}∈rest∧coveredB (done++rest) t x.pred=false:=by
 intro rest
 induction rest with
 | nil=>intro done ups;exact ⟨[],by simp [takeL],.nil,(fun x hx=>by cases hx),[],by simp [takeL],(fun x hx=>by cases hx)⟩
 | cons e rest ih =>
  intro done ups
  unfold takeL
  by_cases hc:e.tree=t∧e.up=false∧coveredB (done++e::rest) t e.pred=false
  ·rw [if_pos hc]
   obtain ⟨r',h1,h2,h3,u',h4,h5⟩:=ih (done++[{e with up:=true}]) (ups++[{e with up:=true}])
   refine ⟨{e with up:=true}::r',by rw [h1];simp,.up e hc.1 hc.2.1 h2,?_,{e with up:=true}::u',by rw [h4];simp,?_⟩
   ·intro x hx ht
    rcases List.mem_cons.1 hx with rfl|hx
    ·exact .inl rfl
    ·have:=h3 x hx ht
     simpa using this
   ·intro x hx
    rcases List.mem_cons.1 hx with rfl|hx
    ·have he:({{e with up:=true} with up:=false}:Entry)=e:=by obtain ⟨a1,a2,a3,a4,a5⟩:=e;simp only at hc;rw [hc.2.1]
     exact ⟨List.mem_cons_self ..,hc.1,rfl,by rw [he];exact List.mem_cons_self ..,hc.2.2⟩
    ·obtain ⟨k1,k2,k3,k4,k5⟩:=h5 x hx
     refine ⟨List.mem_cons_of_mem _ k1,k2,k3,List.mem_cons_of_mem _ k4,?_⟩
     have hR:Raised t (done++e::rest) (done++[{e with up:=true}]++rest):=by
      rw [List.append_assoc]
      exact (Raised.refl t done).append (.up e hc.1 hc.2.1 (.refl t rest))
     cases hq:coveredB (done++e::rest) t x.pred with
     | false=>rfl
     | true=>rw [hR.covered hq]at k5;cases k5
  ·rw [if_neg hc]
   obtain ⟨r',h1,h2,h3,u',h4,h5⟩:=ih (done++[e]) ups
   refine ⟨e::r',by rw [h1];simp,.keep e h2,?_,u',h4,?_⟩
   ·intro x hx ht
    rcases List.mem_cons.1 hx with rfl|hx
    ·cases hu:x.up with
     | true=>exact .inl rfl
     | false =>
      cases hq:coveredB (done++x::rest) t x.pred with
      | true=>exact .inr (((Raised.refl t done).append (.keep x h2)).covered hq)
      | false=>exact absurd ⟨ht,hu,hq⟩ hc
    ·have:=h3 x hx ht
     simpa using this
   ·intro x hx
    obtain ⟨k1,k2,k3,k4,k5⟩:=h5 x hx
    exact ⟨List.mem_cons_of_mem _ k1,k2,k3,List.mem_cons_of_mem _ k4,by simpa using k5⟩
theorem take_cases {b:Broker} (h:InvK b) (t s:ID) (q:Int) :
  ((takeB b t s q)=(b,[],false)∧∀e∈b.entries,isE t s e=true→e.frm≠q) ∨
  (∃ e∈b.entries,isE t s e=true∧e.frm=q∧e.up=false∧takeB b t s q=({b with entries:=b.entries.filter fun x=>!isE t s x},[],false)) ∨
  (∃ e∈b.entries,isE t s e=true∧e.frm=q∧e.up=true∧∃ r' u',takeB b t s q=({b with entries:=r'},u',true)∧Raised t (b.entries.filter fun x=>!isE t s x) r' ∧
   (∀x∈r',x.tree=t→x.up=true∨coveredB r' t x.pred=true)∧∀x∈u',x∈r'∧x.tree=t∧x.up=true∧{x with up:=false}∈b.entries.filter (fun x=>!isE t s x)∧coveredB (b.entries.filter fun x=>!isE t s x) t x.pred=false):=by
 unfold takeB
 cases hf:b.entries.find? (isE t s) with
 | none =>
  left
  refine ⟨rfl,fun e he hi=>?_⟩
  have:=List.find?_eq_none.1 hf e he
  exact absurd hi this
 | some e =>
  have he:=List.mem_of_find?_eq_some hf
  have hi:=List.find?_some hf
  by_cases hq:e.frm=q
  ·simp only [if_pos hq]
   cases hu:e.up with
   | false =>
    right;left
    exact ⟨e,he,hi,hq,hu,by simp⟩
   | true =>
    right;right
    obtain ⟨r',h1,h2,h3,u',h4,h5⟩:=takeL_raised t (b.entries.filter fun x=>!isE t s x) [] []
    refine ⟨e,he,hi,hq,hu,r',u',by simp [h1,h4],h2,by simpa using h3,by simpa using h5⟩
  ·left
   refine ⟨by simp only [if_neg hq],fun x hx hix=>?_⟩
   have hkey:x=e:=by
    by_cases hxe:x=e
    ·exact hxe
    ·exfalso
     have k1:x.tree=t∧x.sub=s:=by simpa [isE] using hix
     have k2:e.tree=t∧e.sub=s:=by simpa [isE] using hi
     obtain ⟨i,hi1,rfl⟩:=List.mem_iff_getElem.1 hx
     obtain ⟨j,hj1,rfl⟩:=List.mem_iff_getElem.1 he
     rcases Nat.lt_trichotomy i j with hlt|he|hlt
     ·have:=List.pairwise_iff_getElem.1 h.re i j hi1 hj1 hlt
      rw [k2.1,k2.2,sgnE_eq.2 k1]at this;omega
     ·subst he;exact hxe rfl
     ·have:=List.pairwise_iff_getElem.1 h.re j i hj1 hi1 hlt
      rw [k1.1,k1.2,sgnE_eq.2 k2]at this;omega
   rw [hkey];exact hq
theorem InvK.entries {b b':Broker} (h:InvK b) (hb:b'={b with entries:=b'.entries}) (hre:RisingE b'.entries) (he:∀e∈b'.entries,∃ d∈b.entries,e.tree=d.tree∧e.pred=d.pred∧e.frm=d.frm∧(e.up=true→parentOf b e.tree≠-1))
  (ht:∀e∈b'.entries,e.up=true∨parentOf b e.tree=-1∨coveredB b'.entries e.tree e.pred=true):InvK b':=by
 have hA:b'.adverts=b.adverts:=by rw [hb]
 have hN:b'.near=b.near:=by rw [hb]
 have hS:b'.seen=b.seen:=by rw [hb]
 have hO:b'.owns=b.owns:=by rw [hb]
 have ho:∀x,advOf b' x=advOf b x:=fun x=>by unfold advOf;rw [hA]
 refine ⟨by rw [hN];exact h.near,by rw [hN];exact h.loc,by rw [hA];exact h.ra,by rw [hS];exact h.rs,by rw [hO];exact h.ro,hre,by rw [hA,hS];exact h.sub,?_,by rw [hA];exact h.pa,by rw [hO];exact h.po,?_,?_,?_⟩
 ·intro a ha;rw [linkB_near hN];rw [hA]at ha;exact h.par a ha
 ·intro e hm
  obtain ⟨d,hd,k1,k2,k3,k4⟩:=he e hm
  rw [rightEnt_same hN (ho _),rightEnt_iff]
  obtain ⟨a,a1,a2,a3,a4,a5⟩:=rightEnt_iff.1 (h.ent d hd)
  refine ⟨a,by rw [k1];exact a1,by rw [k3];exact a2,by rw [k3];exact a3,fun hu=>?_,by rw [k2];exact a5⟩
  have:=k4 hu
  rw [parentOf_eq,k1,a1]at this
  exact this
 ·intro e hm
  obtain ⟨d,hd,_,k2,_⟩:=he e hm
  rw [k2];exact h.pe d hd
 ·rw [tightB_iff]
  intro e hm
  have:parentOf b' e.tree=parentOf b e.tree:=by rw [parentOf_eq,ho,←parentOf_eq]
  rw [this]
  exact ht e hm
theorem InvK.up {b:Broker} (h:InvK b) {e:Entry} (he:e∈b.entries) (hu:e.up=true):parentOf b e.tree≠-1:=by
 obtain ⟨a,a1,_,_,a4,_⟩:=rightEnt_iff.1 (h.ent e he)
 rw [parentOf_eq,a1]
 exact a4 hu
theorem InvK.take {b:Broker} (h:InvK b) (t s:ID) (q:Int):InvK (takeB b t s q).1:=by
 have hsub:∀x∈b.entries.filter (fun x=>!isE t s x),x∈b.entries:=fun x hx=>(List.mem_filter.1 hx).1
 have hrf:RisingE (b.entries.filter fun x=>!isE t s x):=h.re.sublist (List.filter_sublist ..)
 rcases take_cases h t s q with ⟨hc,_⟩|⟨e,he,hi,_,hu,hc⟩|⟨e,he,hi,_,hu,r',u',hc,hR,htt,_⟩
 ·rw [hc];exact h
 ·rw [hc]
  refine h.entries rfl hrf ?_ ?_
  ·intro x hx
   exact ⟨x,hsub x hx,rfl,rfl,rfl,fun hux=>h.up (hsub x hx) hux⟩
  ·intro x hx
   rcases tightB_iff.1 h.tight x (hsub x hx) with h1|h1|h1
   ·exact .inl h1
   ·exact .inr (.inl h1)
   ·refine .inr (.inr ?_)
    rw [coveredB_iff]at *
    obtain ⟨d,hd,k1,k2,k3⟩:=h1
    refine ⟨d,List.mem_filter.2 ⟨hd,?_⟩,k1,k2,k3⟩
    cases hid:isE t s d with
    | false=>rfl
    | true =>
     exfalso
     have q1:d.tree=t∧d.sub=s:=by simpa [isE] using hid
     have q2:e.tree=t∧e.sub=s:=by simpa [isE] using hi
     have:d=e:=by
      by_cases hde:d=e
      ·exact hde
      ·exfalso
       obtain ⟨i,hi1,rfl⟩:=List.mem_iff_getElem.1 hd
       obtain ⟨j,hj1,rfl⟩:=List.mem_iff_getElem.1 he
       rcases Nat.lt_trichotomy i j with hlt|hee|hlt
       ·have:=List.pairwise_iff_getElem.1 h.re i j hi1 hj1 hlt
        rw [q2.1,q2.2,sgnE_eq.2 q1]at this;omega
       ·subst hee;exact hde rfl
       ·have:=List.pairwise_iff_getElem.1 h.re j i hj1 hi1 hlt
        rw [q1.1,q1.2,sgnE_eq.2 q2]at this;omega
     rw [this,hu]at k2;cases k2
 ·have hpt:parentOf b t≠-1:=by
   have:=h.up he hu
   have q2:e.tree=t∧e.sub=s:=by simpa [isE] using hi
   rw [q2.1]at this;exact this
  rw [hc]
  refine h.entries rfl (hR.rising hrf) ?_ ?_
  ·intro x hx
   rcases hR.mem hx with hx|⟨y,hy,h1,h2,rfl⟩
   ·exact ⟨x,hsub x hx,rfl,rfl,rfl,fun hux=>h.up (hsub x hx) hux⟩
   ·exact ⟨y,hsub y hy,rfl,rfl,rfl,fun _=>by rw [h1];exact hpt⟩
  ·intro x hx
   by_cases hxt:x.tree=t
   ·rcases htt x hx hxt with k|k
    ·exact .inl k
    ·exact .inr (.inr (by rw [hxt];exact k))
   ·have hx':x∈b.entries.filter fun x=>!isE t s x:=by
     rcases hR.mem hx with hx|⟨y,hy,h1,h2,rfl⟩
     ·exact hx
     ·exact absurd h1 hxt
    rcases tightB_iff.1 h.tight x (hsub x hx') with h1|h1|h1
    ·exact .inl h1
    ·exact .inr (.inl h1)
    ·refine .inr (.inr (hR.covered ?_))
     rw [coveredB_iff]at *
     obtain ⟨d,hd,k1,k2,k3⟩:=h1
     refine ⟨d,List.mem_filter.2 ⟨hd,?_⟩,k1,k2,k3⟩
     have:¬(d.tree=t∧d.sub=s):=fun hh=>hxt (by rw [←k1];exact hh.1)
     simp [isE,this]
theorem take_len {b:Broker} (h:InvK b) (t s:ID) (q:Int):(takeB b t s q).1.entries.length≤b.entries.length:=by
 rcases take_cases h t s q with ⟨hc,_⟩|⟨e,_,_,_,_,hc⟩|⟨e,_,_,_,_,r',u',hc,hR,_⟩
 ·rw [hc];exact Nat.le_refl _
 ·rw [hc];exact List.length_filter_le ..
 ·rw [hc]
  show r'.length≤_
  rw [hR.len];exact List.length_filter_le ..
theorem take_rest (b:Broker) (t s:ID) (q:Int):(takeB b t s q).1={b with entries:=(takeB b t s q).1.entries}:=by
 unfold takeB
 split
 ·rfl
 ·split
  ·split<;>rfl
  ·rfl
theorem add_rest (b:Broker) (e:Entry):(addB b e).1={b with entries:=(addB b e).1.entries}:=by
 unfold addB
 split<;>rfl
theorem add_len (b:Broker) (e:Entry):(addB b e).1.entries.length≤b.entries.length+1:=by
 unfold addB
 split
 ·simp only [insE_len];exact Nat.le_refl _
 ·exact Nat.le_succ _
theorem SzK.take {b:Broker} {n:Nat} (h:SzK b n) (hi:InvK b) (t s:ID) (q:Int):SzK (takeB b t s q).1 n:=by
 have h1:=take_len hi t s q
 rw [take_rest]at h1 ⊢
 obtain ⟨a1,a2,a3,a4,a5⟩:=h
 exact ⟨a1,a2,a3,a4,Nat.le_trans h1 a5⟩
theorem SzK.add {b:Broker} {n:Nat} (h:SzK b n) (e:Entry):SzK (addB b e).1 (n+1):=by
 have h1:=add_len b e
 rw [add_rest]at h1 ⊢
 obtain ⟨a1,a2,a3,a4,a5⟩:=h
 have:(n+1)*(n+1)=n*n+n+n+1:=by rw [Nat.add_mul,Nat.mul_add];omega
 exact ⟨a1,Nat.le_succ_of_le a2,Nat.le_succ_of_le a3,Nat.le_succ_of_le a4,by simp only at h1 ⊢;omega⟩
end Go.Dm.Tc
/-
Brokers as one datum: what the machine's steps do to it;what functions answer of a broker that calls made.
-/
namespace Go.Dm.Tc
theorem agg_bC (t:Tags) (b:Broker):DV.agg (bCells t b)=eBroker t b:=_root_.id rfl
theorem ecells_eB (sz:Nat) (t:Tags) (b:Broker):ecells sz (eBroker t b)=bCells t b:=_root_.id rfl
theorem bC_len (t:Tags) (b:Broker):(bCells t b).length=6:=_root_.id rfl
theorem bC_take (t:Tags) (b:Broker):(bCells t b).take 6=bCells t b:=_root_.id rfl
theorem bC_0 (t:Tags) (b:Broker):(bCells t b)[0]?=some (.int .i64 b.me):=_root_.id rfl
theorem bC_1 (t:Tags) (b:Broker):(bCells t b)[1]?=some (eL t.near 1 cInt b.near):=_root_.id rfl
theorem bC_2 (t:Tags) (b:Broker):(bCells t b)[2]?=some (eL t.adverts 4 eAdvert b.adverts):=_root_.id rfl
theorem bC_3 (t:Tags) (b:Broker):(bCells t b)[3]?=some (eL t.seen 2 eID b.seen):=_root_.id rfl
theorem bC_4 (t:Tags) (b:Broker):(bCells t b)[4]?=some (eL t.entries 7 eEntry b.entries):=_root_.id rfl
theorem bC_5 (t:Tags) (b:Broker):(bCells t b)[5]?=some (eL t.owns 3 eOwn b.owns):=_root_.id rfl
theorem bCg_0 (t:Tags) (b:Broker) (h:0<(bCells t b).length):(bCells t b)[0]=.int .i64 b.me:=_root_.id rfl
theorem bCg_1 (t:Tags) (b:Broker) (h:1<(bCells t b).length):(bCells t b)[1]=eL t.near 1 cInt b.near:=_root_.id rfl
theorem bCg_2 (t:Tags) (b:Broker) (h:2<(bCells t b).length):(bCells t b)[2]=eL t.adverts 4 eAdvert b.adverts:=_root_.id rfl
theorem bCg_3 (t:Tags) (b:Broker) (h:3<(bCells t b).length):(bCells t b)[3]=eL t.seen 2 eID b.seen:=_root_.id rfl
theorem bCg_4 (t:Tags) (b:Broker) (h:4<(bCells t b).length):(bCells t b)[4]=eL t.entries 7 eEntry b.entries:=_root_.id rfl
theorem bCg_5 (t:Tags) (b:Broker) (h:5<(bCells t b).length):(bCells t b)[5]=eL t.owns 3 eOwn b.owns:=_root_.id rfl
theorem storable_eB (t:Tags) (b:Broker):storable 6 (eBroker t b)=true:=_root_.id rfl
theorem res_eB (tg:Bool) (h:Heap) (n:Nat) (t:Tags) (b:Broker):resolve tg h (n+2) (eBroker t b)=some (eBroker t b):=by
 simp [eBroker]
theorem ul_eB (n:Nat) (b:Broker):unlent (n+24) (eBroker .none b)=true:=by
 simp [eBroker,Tags.none]
theorem frA_eB (h:Heap) (t:Tags) (b:Broker):freezeA h (eBroker t b)=some (eBroker t b,h):=by
 simp [eBroker,frA_agg,mapH_cons,mapH_nil,fr_int,fr_eL,consH_some,consL_some,aggH_some]
theorem fieldV_eB (off:Nat) (n:Option Nat) (t:Tags) (b:Broker):fieldV off n (eBroker t b)=pickCells n (bCells t b) off:=_root_.id rfl
attribute [simp] agg_bC ecells_eB bC_len bC_take bC_0 bC_1 bC_2 bC_3 bC_4 bC_5 bCg_0 bCg_1 bCg_2 bCg_3 bCg_4 bCg_5 storable_eB res_eB ul_eB frA_eB fieldV_eB frA_int frA_eL frA_pred frA_str frA_agg mapH_nil mapH_cons fr_int fr_bool fr_nsl fr_eL fr_pred fr_isl consH_some consL_some aggH_some
section
variable {b:Broker} (t:Tags)
end
end Go.Dm.Tc
/-
What the laws' arguments are: numbers of which predicates,steps,brokers are made.
-/
namespace Go.Dm.Tc
structure PK where
 has:List Int
 vals:List Int
def ePK (p:PK):DV:=.agg [eL false 1 cInt p.has,eL false 1 cInt p.vals]
def PK.pred (p:PK):Pred:=mkPred p.has p.vals
structure StepK where
 kind:Int
 frm:Int
 tree:Int
 client:Int
 seq:Int
 has:List Int
 vals:List Int
structure BrokK where
 near:Int
 steps:List StepK
end Go.Dm.Tc
/-
More plain laws of brokers: one entry for a tree and a number;what covers itself;what comes of an entry taken out,of one added.
-/
namespace Go.Dm.Tc
end Go.Dm.Tc
/-
AdvertsOrder: numbers sorted: the plain law,and the walk.
-/
namespace Go.Dm.Tc
def atL (L:List Int) (i:Nat):Int:=L.getD i 0
def swp (L:List Int) (j:Nat):List Int:=(L.set (j+1) (atL L j)).set j (atL L (j+1))
def bub:Nat→List Int→List Int
 | 0,L=>L
 | j+1,L=>if atL L (j+1)<atL L j then bub j (swp L j) else L
def isr:Nat→Nat→List Int→List Int
 | 0,_,L=>L
 | k+1,i,L=>isr k (i+1) (bub i L)
def isort (L:List Int):List Int:=isr (L.length-1) 1 L
theorem atL_eq {L:List Int} {i:Nat} (h:i<L.length):atL L i=L[i]:=by simp [atL,h]
theorem swp_perm {L:List Int} {j:Nat} (h:j+1<L.length):(swp L j).Perm L:=by
 unfold swp
 rw [atL_eq (by omega:j<L.length),atL_eq h]
 exact List.set_set_perm h (by omega)
theorem swp_len (L:List Int) (j:Nat):(swp L j).length=L.length:=by simp [swp]
theorem swp_get {L:List Int} {j:Nat} (h:j+1<L.length) (k:Nat):atL (swp L j) k=if k=j then atL L (j+1) else if k=j+1 then atL L j else atL L k:=by
 have hj:j<L.length:=by omega
 unfold swp atL
 simp only [List.getD_eq_getElem?_getD,List.getElem?_set,List.length_set]
 by_cases h1:k=j
 ·subst h1;simp [hj]
 ·have h1':¬j=k:=fun e=>h1 e.symm
  by_cases h2:k=j+1
  ·subst h2;simp [h]
  ·have h2':¬j+1=k:=fun e=>h2 e.symm
   simp [h1,h1',h2,h2']
theorem bub_perm:∀(j:Nat) {L:List Int},j<L.length→(bub j L).Perm L
 | 0,_,_=>.refl _
 | j+1,L,h=>by
  unfold bub
  split
  ·exact (bub_perm j (by rw [swp_len];omega)).trans (swp_perm h)
  ·exact .refl _
theorem bub_len (j:Nat) {L:List Int} (h:j<L.length):(bub j L).length=L.length:=(bub_perm j h).length_eq
theorem bub_sorted {i:Nat}:∀(j:Nat) {L:List Int},j≤i→i<L.length→(∀p q,p<q→q≤i→p≠j→q≠j→atL L p≤atL L q)→(∀q,j<q→q≤i→atL L j≤atL L q)→∀p q,p<q→q≤i→atL (bub j L) p≤atL (bub j L) q
 | 0,L,hj,hi,h1,h2,p,q,hpq,hq=>by
  unfold bub
  by_cases hp:p=0
  ·subst hp;exact h2 q hpq hq
  ·exact h1 p q hpq hq hp (by omega)
 | j+1,L,hj,hi,h1,h2,p,q,hpq,hq=>by
  unfold bub
  have hl:j+1<L.length:=by omega
  split
  ·rename_i hc
   refine bub_sorted j (by omega) (by rw [swp_len];exact hi) ?_ ?_ p q hpq hq
   ·intro p q hpq hq hp hq2
    rw [swp_get hl,swp_get hl,if_neg hp,if_neg hq2]
    by_cases e1:p=j+1
    ·rw [if_pos e1,if_neg (by omega)]
     exact h1 j q (by omega) hq (by omega) (by omega)
    ·rw [if_neg e1]
     by_cases e2:q=j+1
     ·rw [if_pos e2]
      exact h1 p j (by omega) (by omega) (by omega) (by omega)
     ·rw [if_neg e2]
      exact h1 p q hpq hq e1 e2
   ·intro q hq1 hq
    rw [swp_get hl,swp_get hl,if_pos rfl,if_neg (by omega)]
    by_cases e2:q=j+1
    ·rw [if_pos e2];omega
    ·rw [if_neg e2];exact h2 q (by omega) hq
  ·rename_i hc
   by_cases e1:p=j+1
   ·subst e1;exact h2 q hpq hq
   ·by_cases e2:q=j+1
    ·subst e2
     by_cases e3:p=j
     ·subst e3;omega
     ·have:=h1 p j (by omega) (by omega) e1 (by omega)
      omega
    ·exact h1 p q hpq hq e1 e2
theorem isr_perm:∀(k i:Nat) {L:List Int},i+k≤L.length→(isr k i L).Perm L
 | 0,_,_,_=>.refl _
 | k+1,i,L,h=>by
  unfold isr
  have hi:i<L.length:=by omega
  exact (isr_perm k (i+1) (by rw [bub_len i hi];omega)).trans (bub_perm i hi)
theorem isr_sorted:∀(k i:Nat) {L:List Int},i+k≤L.length→(∀p q,p<q→q<i→atL L p≤atL L q)→∀p q,p<q→q<i+k→atL (isr k i L) p≤atL (isr k i L) q
 | 0,_,_,_,hs=>by simpa [isr] using hs
 | k+1,i,L,h,hs=>by
  have hi:i<L.length:=by omega
  unfold isr
  intro p q hpq hq
  refine isr_sorted k (i+1) (by rw [bub_len i hi];omega) ?_ p q hpq (by omega)
  intro p q hpq hq
  exact bub_sorted i (Nat.le_refl _) hi (fun p q hpq hq _ hq2=>hs p q hpq (by omega)) (fun q h1 h2=>by omega) p q hpq (by omega)
theorem isort_perm (L:List Int):(isort L).Perm L:=by
 unfold isort
 cases L with
 | nil=>exact .refl _
 | cons a l=>exact isr_perm _ 1 (by simp;omega)
theorem isort_sorted (L:List Int):(isort L).Pairwise (·≤·):=by
 rw [List.pairwise_iff_getElem]
 intro p q hp hq hpq
 have hl:=(isort_perm L).length_eq
 rw [←atL_eq hp,←atL_eq hq]
 unfold isort at *
 cases L with
 | nil=>simp [isr]at hp
 | cons a l=>exact isr_sorted _ 1 (by simp;omega) (fun p q h1 h2=>by omega) p q hpq (by simp at *;omega)
theorem s111 (a b:Int):pcF D t111 [.int .i64 a,.int .i64 b]=some (.bool (decide (a<b))):=by
 unfold pcF
 rw [goRun_eq _ _ _ _ (by simp [t111])]
 simp [t111,e118,s118,turn]
structure RowS (id:Nat) (sp:List DV) (cap:Option Nat) (h h':Heap) (L:List Int):Prop where
 get:h'.get id=some (.arr 3 1 (L.map cInt++sp) cap)
 n:h'.n=h.n
 lim:h'.lim=h.lim
 wf:WF h'
 oth:∀k,k≠id→h'.get k=h.get k
set_option maxRecDepth 8000 in
theorem l105a (S:List Fr) (P:Res→Prop) (id n:Nat) (sp:List DV) (cap:Option Nat) (h:Heap) (hl:h.lim≤id) (hn:n≤1000000) :
  ∀(j:Nat) (L:List Int) (f:FEnv) (h':Heap),RowS id sp cap h h' L→j<L.length→L.length=n→f 0=.sl id 1 0 n→f 1=.int .i64 0→f 7=.int .i64 j →
  (∀f' h'',f' 0=.sl id 1 0 n→f' 1=.int .i64 0→f' 2=f 2→f' 6=f 6→RowS id sp cap h h'' (bub j L)→P (ret D 49 S .normal f' h'')) →
  P (run D 49 (.block 2::S) (.loop t105l0) f h'):=by
 intro j
 induction j with
 | zero =>
  intro L f h' R hj hL h0 h1 h7 hP
  rw [run_loop_of t105l0.eq_1]
  simp [h0,h1,h7]
  exact hP _ h' (by simp [h0]) (by simp [h1]) (by simp) (by simp) R
 | succ j ih =>
  intro L f h' R hj hL h0 h1 h7 hP
  have hj':j<L.length:=by omega
  have hlt:j<n:=by omega
  have hlt1:j+1<n:=by omega
  have hx:∀k,k<L.length→(L.map cInt++sp)[k]?=some (.int .i64 (atL L k)):=fun k hk=>by
   rw [List.getElem?_append_left (by simpa using hk),List.getElem?_map,List.getElem?_eq_getElem hk,atL_eq hk];rfl
  have hx1:=hx (j+1) hj
  have hx0:=hx j hj'
  have g:=R.get
  have hlm:h'.lim≤id:=by rw [R.lim];exact hl
  have hnn:=get_some_lt g
  have hwf:=R.wf
  have hw1:IntKind.i64.wrap (j:Int)=(j:Int):=wrap64 (by omega) (by omega)
  have hi1:indexAddrV 1 (.sl id 1 0 n) (.int .i64 ((j:Int)+1))=some (.ptr id 1 (j+1) 0):=by
   have:((j:Int)+1)=((j+1:Nat):Int):=by omega
   rw [this];simp [indexAddrV,asI];omega
  have hi0:indexAddrV 1 (.sl id 1 0 n) (.int .i64 (j:Int))=some (.ptr id 1 j 0):=by simp [indexAddrV,asI,hlt]
  have hl1:=s111 (atL L (j+1)) (atL L j)
  rw [run_loop_of t105l0.eq_1]
  by_cases hc:atL L (j+1)<atL L j
  ·simp [h0,h1,h7,g,hx1,hx0,hlm,hnn,hwf,hw1,hi1,hi0,e111,hl1,hc,turn]
   generalize hF:upd _ 7 _=F
   have hb:bub (j+1) L=bub j (swp L j):=by
    show (if atL L (j+1)<atL L j then bub j (swp L j) else L)=_
    rw [if_pos hc]
   have hrow:((L.map cInt++sp).set (j+1) (.int .i64 (atL L j))).set j (.int .i64 (atL L (j+1)))=(swp L j).map cInt++sp:=by
    unfold swp
    rw [List.set_append_left _ _ (by simpa using hj),List.set_append_left _ _ (by simp;omega),List.map_set,List.map_set]
    rfl
   rw [hrow]
   have R':RowS id sp cap h (h'.set id (.arr 3 1 ((swp L j).map cInt++sp) cap)) (swp L j) :=
    ⟨by rw [get_set hwf hnn,if_pos rfl],R.n,R.lim,hwf.set,fun k hk=>by rw [get_set hwf hnn,if_neg hk];exact R.oth k hk⟩
   refine ih (swp L j) F _ R' (by rw [swp_len];exact hj') (by rw [swp_len];exact hL) ?_ ?_ ?_ ?_
   ·rw [←hF];simp [h0]
   ·rw [←hF];simp [h1]
   ·rw [←hF];simp
   ·intro f' h'' a0 a1 a2 a6 RR
    exact hP f' h'' a0 a1 (by rw [a2,←hF];simp) (by rw [a6,←hF];simp) (by rw [hb];exact RR)
  ·have hb:bub (j+1) L=L:=by
    show (if atL L (j+1)<atL L j then bub j (swp L j) else L)=_
    rw [if_neg hc]
   simp [h0,h1,h7,g,hx1,hx0,hlm,hnn,hwf,hw1,hi1,hi0,e111,hl1,hc,turn]
   exact hP _ h' (by simp [h0]) (by simp [h1]) (by simp) (by simp) (by rw [hb];exact R)
set_option maxRecDepth 8000 in
theorem l105b (id n:Nat) (sp:List DV) (cap:Option Nat) (h:Heap) (hl:h.lim≤id) (hn:n≤1000000) :
  ∀(k i:Nat) (L:List Int) (f:FEnv) (h':Heap),RowS id sp cap h h' L→i+k=n→L.length=n→f 0=.sl id 1 0 n→f 1=.int .i64 0→f 2=.int .i64 n→f 6=.int .i64 i →
  ∃ h'',fin [] (run D 49 [.block 0] (.loop t105l1) f h')=some (.tup [],h'')∧RowS id sp cap h h'' (isr k i L):=by
 intro k
 induction k with
 | zero =>
  intro i L f h' R hk hL h0 h1 h2 h6
  have hi:i=n:=by omega
  subst hi
  rw [run_loop_of t105l1.eq_1]
  simp [h2,h6]
  exact ⟨h',rfl,R⟩
 | succ k ih =>
  intro i L f h' R hk hL h0 h1 h2 h6
  have hlt:i<n:=by omega
  have hw:IntKind.i64.wrap ((i:Int)+1)=(i:Int)+1:=wrap64 (by omega) (by omega)
  rw [run_loop_of t105l1.eq_1]
  simp [h2,h6,hlt]
  generalize hF:upd _ 7 _=F
  refine l105a _ (fun r=>∃ h'',fin [] r=some (.tup [],h'')∧RowS id sp cap h h'' (isr (k+1) i L)) id n sp cap h hl hn i L F h' R (by omega) hL (by rw [←hF];simp [h0]) (by rw [←hF];simp [h1]) (by rw [←hF];simp) fun f' h'' a0 a1 a2 a6 R'=>?_
  have b2:f' 2=.int .i64 n:=by rw [a2,←hF];simp [h2]
  have b6:f' 6=.int .i64 i:=by rw [a6,←hF];simp [h6]
  simp [t105k0,b6,hw]
  generalize hG:upd _ 6 _=G
  exact ih (i+1) (bub i L) G h'' R' (by omega) (by rw [bub_len i (by omega)];exact hL) (by rw [←hG];simp [a0]) (by rw [←hG];simp [a1]) (by rw [←hG];simp [b2]) (by rw [←hG];simp)
theorem q105 (id:Nat) (sp:List DV) (cap:Option Nat) (h:Heap) (L:List Int) (g:h.get id=some (.arr 3 1 (L.map cInt++sp) cap)) (hl:h.lim≤id) (hn:L.length≤1000000) (wf:WF h) :
  ∃ h'',fc D 105 [.sl id 1 0 L.length,.int .i64 0,.int .i64 L.length] h=some (.tup [],h'')∧RowS id sp cap h h'' (isort L):=by
 rw [e105,goRun_eq _ _ _ _ (by simp [t105])]
 simp [t105]
 generalize hF:upd _ 6 _=F
 have R:RowS id sp cap h h L:=⟨g,rfl,rfl,wf,fun _ _=>rfl⟩
 unfold isort
 cases L with
 | nil =>
  have h2:F 2=.int .i64 0:=by rw [←hF];simp
  have h6:F 6=.int .i64 1:=by rw [←hF];simp
  rw [run_loop_of t105l1.eq_1]
  simp [h2,h6]
  exact ⟨h,rfl,R⟩
 | cons a l =>
  refine l105b id (a::l).length sp cap h hl hn ((a::l).length-1) 1 (a::l) F h R (by simp;omega) rfl ?_ ?_ ?_ ?_
  all_goals (rw [←hF];simp)
def lenN (n:Nat):Int:=if n=0 then 0 else if n<2 then 1 else if n<4 then 2 else if n<8 then 3 else 4
theorem s79 (n:Nat) (hn:n≤12):pcF D t79 [.int .u64 n]=some (.int .i64 (lenN n)):=by
 have:n=0∨n=1∨n=2∨n=3∨n=4∨n=5∨n=6∨n=7∨n=8∨n=9∨n=10∨n=11∨n=12:=by omega
 rcases this with rfl|rfl|rfl|rfl|rfl|rfl|rfl|rfl|rfl|rfl|rfl|rfl|rfl
 ·exact pc_run (n:=2000) (args:=[.int .u64 0]) e79 rfl (by kernel_rfl)
 ·exact pc_run (n:=2000) (args:=[.int .u64 1]) e79 rfl (by kernel_rfl)
 ·exact pc_run (n:=2000) (args:=[.int .u64 2]) e79 rfl (by kernel_rfl)
 ·exact pc_run (n:=2000) (args:=[.int .u64 3]) e79 rfl (by kernel_rfl)
 ·exact pc_run (n:=2000) (args:=[.int .u64 4]) e79 rfl (by kernel_rfl)
 ·exact pc_run (n:=2000) (args:=[.int .u64 5]) e79 rfl (by kernel_rfl)
 ·exact pc_run (n:=2000) (args:=[.int .u64 6]) e79 rfl (by kernel_rfl)
 ·exact pc_run (n:=2000) (args:=[.int .u64 7]) e79 rfl (by kernel_rfl)
 ·exact pc_run (n:=2000) (args:=[.int .u64 8]) e79 rfl (by kernel_rfl)
 ·exact pc_run (n:=2000) (args:=[.int .u64 9]) e79 rfl (by kernel_rfl)
 ·exact pc_run (n:=2000) (args:=[.int .u64 10]) e79 rfl (by kernel_rfl)
 ·exact pc_run (n:=2000) (args:=[.int .u64 11]) e79 rfl (by kernel_rfl)
 ·exact pc_run (n:=2000) (args:=[.int .u64 12]) e79 rfl (by kernel_rfl)
set_option maxRecDepth 8000 in
theorem q78 (id:Nat) (sp:List DV) (cap:Option Nat) (h:Heap) (L:List Int) (x:Int) (g:h.get id=some (.arr 3 1 (L.map cInt++sp) cap)) (hl:h.lim≤id) (hn:L.length≤12) (wf:WF h) :
  ∃ h'',fc D 78 [.sl id 1 0 L.length,.int .i64 0,.int .i64 L.length,.int .i64 x] h=some (.tup [],h'')∧RowS id sp cap h h'' (isort L):=by
 obtain ⟨h'',hq,R⟩:=q105 id sp cap h L g hl (by omega) wf
 refine ⟨h'',?_,R⟩
 have hw:IntKind.i64.wrap (L.length:Int)=L.length:=wrap64 (by omega) (by omega)
 have h12:(L.length:Int)≤12:=by omega
 rw [e78,goRun_eq _ _ _ _ (by simp [t78])]
 simp [t78]
 rw [run_loop_of t78l0.eq_1]
 simp [hw,h12,hn,hq,turn]
 rfl
theorem q28 (id:Nat) (sp:List DV) (cap:Option Nat) (h:Heap) (L:List Int) (g:h.get id=some (.arr 3 1 (L.map cInt++sp) cap)) (hl:h.lim≤id) (hn:L.length≤12) (wf:WF h) :
  ∃ h'',fc D 28 [.sl id 1 0 L.length] h=some (.tup [],h'')∧RowS id sp cap h h'' (isort L):=by
 obtain ⟨h'',hq,R⟩:=q78 id sp cap h L (lenN L.length) g hl hn wf
 refine ⟨h'',?_,R⟩
 have hb:=s79 L.length hn
 have hw:IntKind.u64.wrap (L.length:Int)=L.length:=by
  have:L.length=0∨L.length=1∨L.length=2∨L.length=3∨L.length=4∨L.length=5∨L.length=6∨L.length=7∨L.length=8∨L.length=9∨L.length=10∨L.length=11∨L.length=12:=by omega
  rcases this with e|e|e|e|e|e|e|e|e|e|e|e|e<;>rw [e]<;>rfl
 rw [e28,goRun_eq _ _ _ _ (by simp [t28])]
 simp [t28,hw,e79,hb,hq,turn]
 rfl
end Go.Dm.Tc
/-
AdvertsOrder: numbers sorted,and the same ones struck: the walk.
-/
namespace Go.Dm.Tc
def Strict (L:List Int):Prop:=L.Pairwise (·<·)
theorem strict_snoc {A:List Int} {v:Int} (h:Strict A) (hv:∀a∈A,a<v):Strict (A++[v]):=by
 unfold Strict at *
 rw [List.pairwise_append]
 exact ⟨h,List.pairwise_singleton ..,fun a ha b hb=>by rw [List.mem_singleton.1 hb];exact hv a ha⟩
theorem take_snoc {L:List Int} {p:Nat} (h:p<L.length):L.take (p+1)=L.take p++[atL L p]:=by
 rw [List.take_succ,List.getElem?_eq_getElem h,atL_eq h];rfl
theorem take_setk {M:List Int} {k:Nat} (h:k<M.length) (v:Int):(M.set k v).take (k+1)=M.take k++[v]:=by
 rw [take_snoc (by simpa using h)]
 congr 1
 ·exact List.take_set_of_le (Nat.le_refl _)
 ·simp [atL,h]
structure CompI (L M:List Int) (k p:Nat):Prop where
 len:M.length=L.length
 k1:1≤k
 kp:k<p
 pl:p≤L.length
 tail:∀i,p-1≤i→atL M i=atL L i
 strict:Strict (M.take k)
 mem:∀x,x∈M.take k↔x∈L.take p
 last:atL M (k-1)=atL L (p-1)
theorem CompI.start {L:List Int} {k:Nat} (hs:Strict (L.take k)) (h1:1≤k) (hk:k<L.length) (he:atL L k=atL L (k-1)):CompI L L k (k+1):=by
 refine ⟨rfl,h1,by omega,by omega,fun _ _=>rfl,hs,fun x=>?_,by simp [he]⟩
 rw [take_snoc hk,List.mem_append,List.mem_singleton]
 constructor
 ·exact .inl
 ·rintro (h|h)
  ·exact h
  ·rw [h,he]
   have:k-1<L.length:=by omega
   rw [atL_eq this]
   exact List.mem_take_iff_getElem.2 ⟨k-1,by omega,rfl⟩
theorem CompI.same {L M:List Int} {k p:Nat} (h:CompI L M k p) (hp:p<L.length) (he:atL L p=atL L (p-1)):CompI L M k (p+1):=by
 refine ⟨h.len,h.k1,by have:=h.kp;omega,by omega,fun i hi=>h.tail i (by omega),h.strict,fun x=>?_,by rw [h.last];simp [he]⟩
 rw [h.mem,take_snoc hp,List.mem_append,List.mem_singleton]
 constructor
 ·exact .inl
 ·rintro (q|q)
  ·exact q
  ·rw [q,he]
   have hkp:=h.kp
   have:p-1<L.length:=by omega
   rw [atL_eq this]
   exact List.mem_take_iff_getElem.2 ⟨p-1,by omega,rfl⟩
theorem CompI.more {L M:List Int} {k p:Nat} (h:CompI L M k p) (hs:L.Pairwise (·≤·)) (hp:p<L.length) (he:atL L p≠atL L (p-1)):CompI L (M.set k (atL L p)) (k+1) (p+1):=by
 have hkp:=h.kp
 have hk1:=h.k1
 have hkM:k<M.length:=by rw [h.len];omega
 have hlt:atL L (p-1)<atL L p:=by
  have:=List.pairwise_iff_getElem.1 hs (p-1) p (by omega) hp (by omega)
  rw [←atL_eq (by omega:p-1<L.length),←atL_eq hp]at this
  omega
 refine ⟨by simpa using h.len,by omega,by omega,by omega,?_,?_,?_,?_⟩
 ·intro i hi
  have:atL (M.set k (atL L p)) i=atL M i:=by
   unfold atL
   simp only [List.getD_eq_getElem?_getD,List.getElem?_set]
   rw [if_neg (by omega)]
  rw [this]
  exact h.tail i (by omega)
 ·rw [take_setk hkM]
  refine strict_snoc h.strict fun a ha=>?_
  have hle:a≤atL M (k-1):=by
   obtain ⟨i,hi,rfl⟩:=List.mem_take_iff_getElem.1 ha
   by_cases e:i=k-1
   ·subst e;rw [atL_eq (by omega)];exact Int.le_refl _
   ·have:=List.pairwise_iff_getElem.1 h.strict i (k-1) (by simp;omega) (by simp;omega) (by omega)
    simp only [List.getElem_take]at this
    rw [atL_eq (by omega)];omega
  rw [h.last]at hle
  omega
 ·intro x
  rw [take_setk hkM,take_snoc hp,List.mem_append,List.mem_append,h.mem]
 ·have:atL (M.set k (atL L p)) (k+1-1)=atL L p:=by simp [atL,hkM]
  rw [this];rfl
set_option maxRecDepth 8000 in
theorem l29a (S:List Fr) (P:Res→Prop) (id n k0:Nat) (L:List Int) (sp:List DV) (cap:Option Nat) (h:Heap) (hl:h.lim≤id) (hn:n≤1000000) (hs:L.Pairwise (·≤·)) (hL:L.length=n) (hk0:k0≤n) :
  ∀(j p k:Nat) (M:List Int) (f:FEnv) (h':Heap),RowS id sp cap h h' M→CompI L M k p→k0<p→p+j=n→f 0=.sl id 1 0 n→f 3=.int .i64 k→f 4=.sl id 1 k0 (n-k0)→f 5=.int .i64 ((p-k0:Nat):Int) →
  (∀k' M' f' h'',f' 0=.sl id 1 0 n→f' 3=.int .i64 k'→RowS id sp cap h h'' M'→CompI L M' k' n→P (ret D 61 S .normal f' h'')) →
  P (run D 61 (.block 2::S) (.loop t29l0) f h'):=by
 intro j
 induction j with
 | zero =>
  intro p k M f h' R I hk hp h0 h3 h4 h5 hP
  have hpn:p=n:=by omega
  subst hpn
  rw [run_loop_of t29l0.eq_1]
  simp [h0,h3,h4,h5]
  exact hP k M _ h' (by simp [h0]) (by simp [h3]) R I
 | succ j ih =>
  intro p k M f h' R I hk hp h0 h3 h4 h5 hP
  have hkp:=I.kp
  have hML:M.length=n:=by rw [I.len,hL]
  have hpn:p<n:=by omega
  have hx:∀i,i<n→(M.map cInt++sp)[i]?=some (.int .i64 (atL M i)):=fun i hi=>by
   rw [List.getElem?_append_left (by simp;omega),List.getElem?_map,List.getElem?_eq_getElem (by omega),atL_eq (by omega)];rfl
  have hx1:=hx p hpn
  have hx0:=hx (p-1) (by omega)
  have hxk:=hx k (by omega)
  rw [I.tail p (by omega)]at hx1
  rw [I.tail (p-1) (by omega)]at hx0
  have g:=R.get
  have hlm:h'.lim≤id:=by rw [R.lim];exact hl
  have hnn:=get_some_lt g
  have hwf:=R.wf
  have hi1:indexAddrV 1 (.sl id 1 k0 (n-k0)) (.int .i64 ((p-k0:Nat):Int))=some (.ptr id 1 p 0):=by
   have:p-k0<n-k0:=by omega
   simp [indexAddrV,asI,this];omega
  have hw1:IntKind.i64.wrap (((p-k0:Nat):Int)-1)=((p-k0-1:Nat):Int):=by rw [wrap64 (by omega) (by omega)];omega
  have hw2:IntKind.i64.wrap (((p-k0:Nat):Int)+1)=((p+1-k0:Nat):Int):=by rw [wrap64 (by omega) (by omega)];omega
  have hw3:IntKind.i64.wrap ((k:Int)+1)=((k+1:Nat):Int):=by rw [wrap64 (by omega) (by omega)];omega
  have hi0:indexAddrV 1 (.sl id 1 k0 (n-k0)) (.int .i64 ((p-k0-1:Nat):Int))=some (.ptr id 1 (p-1) 0):=by
   have:p-k0-1<n-k0:=by omega
   simp [indexAddrV,asI,this];omega
  have hik:indexAddrV 1 (.sl id 1 0 n) (.int .i64 (k:Int))=some (.ptr id 1 k 0):=by
   have:k<n:=by omega
   simp [indexAddrV,asI,this]
  have hlt:((p-k0:Nat):Int)<((n-k0:Nat):Int):=by omega
  have hlt':p-k0<n-k0:=by omega
  rw [run_loop_of t29l0.eq_1]
  by_cases hc:atL L p=atL L (p-1)
  ·simp [h0,h3,h4,h5,g,hx1,hx0,hlm,hnn,hwf,hw1,hw2,hw3,hi1,hi0,hik,hlt,hlt',hc]
   generalize hF:upd _ 5 _=F
   exact ih (p+1) k M F h' R (I.same (by omega) hc) (by omega) (by omega) (by rw [←hF];simp [h0]) (by rw [←hF];simp [h3]) (by rw [←hF];simp [h4]) (by rw [←hF];simp) hP
  ·simp [h0,h3,h4,h5,g,hx1,hx0,hlm,hnn,hwf,hw1,hw2,hw3,hi1,hi0,hik,hlt,hlt',hc,hxk]
   generalize hF:upd _ 5 _=F
   have hrow:(M.map cInt++sp).set k (.int .i64 (atL L p))=(M.set k (atL L p)).map cInt++sp:=by
    rw [List.set_append_left _ _ (by simp;omega),List.map_set];rfl
   rw [hrow]
   have R':RowS id sp cap h (h'.set id (.arr 3 1 ((M.set k (atL L p)).map cInt++sp) cap)) (M.set k (atL L p)) :=
    ⟨by rw [get_set hwf hnn,if_pos rfl],R.n,R.lim,hwf.set,fun i hi=>by rw [get_set hwf hnn,if_neg hi];exact R.oth i hi⟩
   exact ih (p+1) (k+1) _ F _ R' (I.more hs (by omega) hc) (by omega) (by omega) (by rw [←hF];simp [h0]) (by rw [←hF];simp) (by rw [←hF];simp [h4]) (by rw [←hF];simp) hP
def CompD (id:Nat) (cap:Option Nat) (h:Heap) (L:List Int) (r:Res):Prop :=
 ∃ N sp' h'',fin [.t 2] r=some (.sl id 1 0 N.length,h'')∧RowS id sp' cap h h'' N∧Strict N∧(∀x,x∈N↔x∈L)∧N.length≤L.length
set_option maxRecDepth 8000 in
theorem l29b (id n:Nat) (L:List Int) (sp:List DV) (cap:Option Nat) (h:Heap) (hl:h.lim≤id) (hn:n≤1000000) (hs:L.Pairwise (·≤·)) (hL:L.length=n) (g:h.get id=some (.arr 3 1 (L.map cInt++sp) cap)) (wf:WF h) :
  ∀(j k:Nat) (f:FEnv),Strict (L.take k)→1≤k→k+j=n→f 0=.sl id 1 0 n→f 3=.int .i64 k →
  CompD id cap h L (run D 61 [.block 0,.seq t29k2] (.loop t29l1) f h):=by
 have R:RowS id sp cap h h L:=⟨g,rfl,rfl,wf,fun _ _=>rfl⟩
 have hnn:=get_some_lt g
 intro j
 induction j with
 | zero =>
  intro k f hst h1 hk h0 h3
  have hkn:k=n:=by omega
  subst hkn
  rw [run_loop_of t29l1.eq_1]
  simp [h0,h3,t29k2]
  refine ⟨L,sp,h,by rw [hL];rfl,R,by rw [←hL,List.take_length]at hst;exact hst,fun x=>Iff.rfl,Nat.le_refl _⟩
 | succ j ih =>
  intro k f hst h1 hk h0 h3
  have hkn:k<n:=by omega
  have hx:∀i,i<n→(L.map cInt++sp)[i]?=some (.int .i64 (atL L i)):=fun i hi=>by
   rw [List.getElem?_append_left (by simp;omega),List.getElem?_map,List.getElem?_eq_getElem (by omega),atL_eq (by omega)];rfl
  have hx1:=hx k hkn
  have hx0:=hx (k-1) (by omega)
  have hw1:IntKind.i64.wrap ((k:Int)-1)=((k-1:Nat):Int):=by rw [wrap64 (by omega) (by omega)];omega
  have hw3:IntKind.i64.wrap ((k:Int)+1)=((k+1:Nat):Int):=by rw [wrap64 (by omega) (by omega)];omega
  have hik:∀i:Nat,i<n→indexAddrV 1 (.sl id 1 0 n) (.int .i64 (i:Int))=some (.ptr id 1 i 0):=fun i hi=>by
   simp [indexAddrV,asI,hi]
  have hi1:=hik k hkn
  have hi0:=hik (k-1) (by omega)
  rw [run_loop_of t29l1.eq_1]
  by_cases hc:atL L k=atL L (k-1)
  ·have hsl:sliceV h 1 (.sl id 1 0 n) (some (.int .i64 (k:Int))) none=some (.sl id 1 k (n-k)):=by
    simp only [sliceV,g]
    rw [if_pos ⟨trivial,trivial,by simp;omega⟩]
    simp only [boundV,asI]
    rw [if_pos ⟨by omega,by omega⟩]
    simp
   simp [h0,h3,g,hx1,hx0,hl,hnn,wf,hw1,hw3,hi1,hi0,hkn,hc,hsl]
   generalize hF:upd _ 5 _=F
   refine l29a _ (CompD id cap h L) id n k L sp cap h hl hn hs hL (by omega) (n-(k+1)) (k+1) k L F h R (CompI.start hst h1 (by omega) hc) (by omega) (by omega) (by rw [←hF];simp [h0]) (by rw [←hF];simp [h3]) (by rw [←hF];simp) (by rw [←hF];simp<;>omega) fun k' M f' h'' a0 a3 R' I=>?_
   have g':=R'.get
   have hlm:h''.lim≤id:=by rw [R'.lim];exact hl
   have hkp:=I.kp
   have hML:M.length=n:=by rw [I.len,hL]
   have hsl1:sliceV h'' 1 (.sl id 1 0 n) (some (.int .i64 (k':Int))) none=some (.sl id 1 k' (n-k')):=by
    simp only [sliceV,g']
    rw [if_pos ⟨trivial,trivial,by simp;omega⟩]
    simp only [boundV,asI]
    rw [if_pos ⟨by omega,by omega⟩]
    simp
   have hcl:=clearV_sl (z:=.int .i64 0) (len:=n-k') (off:=k') g' (by simp;omega) hlm (by omega)
   have hwf:=R'.wf
   have hnn':=get_some_lt g'
   have hrow:splice (M.map cInt++sp) (List.replicate (n-k') (.int .i64 0)) k'=(M.take k').map cInt++(List.replicate (n-k') (.int .i64 0)++sp):=by
    unfold splice
    have e1:(M.map cInt++sp).take k'=(M.take k').map cInt:=by
     rw [List.take_append_of_le_length (by simp;omega),List.map_take]
    have e2:(M.map cInt++sp).drop (k'+(n-k'))=sp:=by
     have:k'+(n-k')=(M.map cInt).length:=by simp;omega
     rw [this,List.drop_left]
    simp only [List.length_replicate]
    rw [e1,e2,List.append_assoc]
   obtain ⟨X,hX⟩:∃ X,(M.take k').map cInt++(List.replicate (n-k') (.int .i64 0)++sp)=X:=⟨_,rfl⟩
   have hXl:n≤X.length:=by rw [←hX];simp;omega
   rw [hrow,hX]at hcl
   have hsl2:∀H:Heap,∀xs c,H.get id=some (.arr 3 1 xs c)→n≤xs.length→sliceV H 1 (.sl id 1 0 n) none (some (.int .i64 (k':Int)))=some (.sl id 1 0 k'):=fun H xs c hg hlen=>by
    simp only [sliceV,hg]
    rw [if_pos ⟨trivial,trivial,by omega⟩]
    simp only [boundV,asI]
    rw [if_pos ⟨by omega,by omega⟩]
    simp
   have hg2:(h''.set id (.arr 3 1 (X) cap)).get id=some (.arr 3 1 (X) cap):=by
    rw [get_set hwf hnn',if_pos rfl]
   have hs2:=hsl2 _ _ _ hg2 hXl
   simp [t29k0,a0,a3,hsl1,hcl,on_clear,hs2]
   refine ⟨M.take k',List.replicate (n-k') (.int .i64 0)++sp,(h''.set id (.arr 3 1 (X) cap)),?_,⟨by rw [hX];exact hg2,R'.n,R'.lim,hwf.set,fun i hi=>by rw [get_set hwf hnn',if_neg hi];exact R'.oth i hi⟩,I.strict,fun x=>?_,by simp;omega⟩
   ·have:(M.take k').length=k':=by simp;omega
    rw [this];rfl
   ·rw [I.mem,←hL,List.take_length]
  ·have hlt:atL L (k-1)<atL L k:=by
    have:=List.pairwise_iff_getElem.1 hs (k-1) k (by omega) (by omega) (by omega)
    rw [←atL_eq (by omega:k-1<L.length),←atL_eq (by omega:k<L.length)]at this
    omega
   have hst':Strict (L.take (k+1)):=by
    rw [take_snoc (by omega)]
    refine strict_snoc hst fun a ha=>?_
    obtain ⟨i,hi,rfl⟩:=List.mem_take_iff_getElem.1 ha
    have hle:L[i]≤atL L (k-1):=by
     rw [atL_eq (by omega)]
     by_cases e:i=k-1
     ·subst e;exact Int.le_refl _
     ·exact List.pairwise_iff_getElem.1 hs i (k-1) (by omega) (by omega) (by omega)
    omega
   simp [h0,h3,g,hx1,hx0,hl,hnn,wf,hw1,hw3,hi1,hi0,hkn,hc,t29k1]
   generalize hF:upd _ 3 _=F
   exact ih (k+1) F hst' (by omega) (by omega) (by rw [←hF];simp [h0]) (by rw [←hF];simp)
set_option maxRecDepth 8000 in
theorem q29 (id:Nat) (L:List Int) (sp:List DV) (cap:Option Nat) (h:Heap) (hl:h.lim≤id) (hn:L.length≤1000000) (hs:L.Pairwise (·≤·)) (g:h.get id=some (.arr 3 1 (L.map cInt++sp) cap)) (wf:WF h) :
  ∃ N sp' h'',fc D 29 [.sl id 1 0 L.length] h=some (.sl id 1 0 N.length,h'')∧RowS id sp' cap h h'' N∧Strict N∧(∀x,x∈N↔x∈L)∧N.length≤L.length:=by
 rw [e29,goRun_eq _ _ _ _ (by simp [t29])]
 simp [t29]
 by_cases h2:L.length<2
 ·have h2':(L.length:Int)<2:=by omega
  simp [h2,h2']
  refine ⟨L,sp,h,⟨rfl,rfl⟩,⟨g,rfl,rfl,wf,fun _ _=>rfl⟩,?_,fun x=>Iff.rfl,Nat.le_refl _⟩
  match L,h2 with
  | [],_=>exact List.Pairwise.nil
  | [a],_=>exact List.pairwise_singleton ..
 ·have h2':¬(L.length:Int)<2:=by omega
  simp [h2,h2']
  generalize hF:upd _ 3 _=F
  refine l29b id L.length L sp cap h hl hn hs rfl g wf (L.length-1) 1 F ?_ (Nat.le_refl _) (by omega) (by rw [←hF];simp) (by rw [←hF];simp)
  match L with
  | []=>simp [Strict]
  | a::r=>simp [Strict]
end Go.Dm.Tc
/-
AdvertsOrder: a new broker,whatever its neighbours.
-/
namespace Go.Dm.Tc
theorem s7_none:pcF D t7 [.int .i64 11,.isl false 0 []]=some (eBroker .none ⟨11,[],[],[],[],[]⟩):=pc_run (n:=2000) (args:=[.int .i64 11,.isl false 0 []]) e7 rfl (by kernel_rfl)
set_option maxRecDepth 8000 in
theorem s7 (t:Bool) (near:List Int) (hn:near.length≤12):∃ nr,pcF D t7 [.int .i64 11,eL t 1 cInt near]=some (eBroker .none ⟨11,nr,[],[],[],[]⟩)∧Strict nr∧(∀x,x∈nr↔x∈near)∧nr.length≤near.length:=by
 by_cases h0:near=[]
 ·subst h0
  exact ⟨[],s7_none,List.Pairwise.nil,fun x=>Iff.rfl,Nat.le_refl _⟩
 unfold pcF
 rw [goRun_eq _ _ _ _ (by simp [t7])]
 simp [t7,e27]
 generalize hA:cloneHook _ _ _ _ _=A
 obtain ⟨v,K,rfl,o,x,_⟩:=clone_own (lo:=1) (ys:=near.map cInt) (elems_eL ..) (by simp) (by simp) (by simp) (by simp;omega) (by decide) hA
 clear hA
 cases o with
 | nil hv hx=>exfalso;apply h0;simpa using hx
 | arr id hv hg hlim hlo =>
  subst hv
  have g0:=x.get 0 (by decide)
  simp at g0
  have g1:K.get id=some (.arr 3 1 (near.map cInt++[]) none):=by simpa using hg
  obtain ⟨K2,h2,R2⟩:=q28 id [] none K near g1 hlim hn x.wf
  have hsl:=(isort_perm near).length_eq
  have hid:=get_some_lt hg
  obtain ⟨N,sp,K3,h3,R3,sN,mN,lN⟩:=q29 id (isort near) [] none K2 (by rw [R2.lim];exact hlim) (by omega) (isort_sorted near) R2.get R2.wf
  rw [hsl]at h3
  have k0:K3.get 0=some (.arr 30 6 [.agg [.int .i64 0,.nsl,.nsl,.nsl,.nsl,.nsl]] (some 1)):=by
   rw [R3.oth 0 (by omega),R2.oth 0 (by omega),g0]
  have kl:K3.lim=0:=by rw [R3.lim,R2.lim,x.lim];simp
  have kw:=R3.wf
  have kn:0<K3.n:=get_some_lt k0
  have kg:=R3.get
  refine ⟨N,?_,sN,fun y=>by rw [mN,(isort_perm near).mem_iff],by omega⟩
  have i0:¬id=0:=by omega
  have i1:¬0=id:=by omega
  have w:OwnR 1 K3 (.sl id 1 0 N.length) 3 1 (N.map cInt):=.arr id sp none (by simp) kg (by omega) hlo
  have hr:∀o,resolve false (K3.set 0 o) 199 (.sl id 1 0 N.length)=some (eL false 1 cInt N):=fun o =>
   OwnR.resolve (lo:=1) (h:=K3.set 0 o) (ety:=3) (sz:=1) (k:=20) (e:=cInt) (ys:=N) (v:=.sl id 1 0 N.length) false (.arr id sp none (by simp) (by rw [get_set kw kn,if_neg i0];exact kg) (by show K3.lim≤id;omega) hlo) (fun y _=>(plain_cint y).1) (by decide)
  have ws:=w.storable
  have we:=w.ecells
  generalize (DV.sl id 1 0 N.length)=V at *
  simp [h2,h3,turn,k0,kl,kw,kn,hr,ws,we,resultsOf,eBroker,Tags.none,eL_nil]
end Go.Dm.Tc
/-
AdvertsOrder: the plain law;the loop that makes the row.
-/
namespace Go.Dm.Tc
theorem eq_of_mem {α:Type} {r:α→α→Prop} (irr:∀a,¬r a a) (asym:∀a b,r a b→¬r b a):∀{A B:List α},A.Pairwise r→B.Pairwise r→(∀x,x∈A↔x∈B)→A=B
 | [],[],_,_,_=>rfl
 | [],b::B,_,_,h=>absurd ((h b).2 (List.mem_cons_self ..)) (by simp)
 | a::A,[],_,_,h=>absurd ((h a).1 (List.mem_cons_self ..)) (by simp)
 | a::A,b::B,hA,hB,h=>by
  rw [List.pairwise_cons]at hA hB
  have hab:a=b:=by
   apply Classical.byContradiction
   intro hne
   have h1:=(List.mem_cons.1 ((h a).1 (List.mem_cons_self ..))).resolve_left hne
   have h2:=(List.mem_cons.1 ((h b).2 (List.mem_cons_self ..))).resolve_left (fun e=>hne e.symm)
   exact asym _ _ (hA.1 _ h2) (hB.1 _ h1)
  subst hab
  congr 1
  refine eq_of_mem irr asym hA.2 hB.2 fun x=>⟨fun hx=>?_,fun hx=>?_⟩
  ·refine (List.mem_cons.1 ((h x).1 (List.mem_cons_of_mem _ hx))).resolve_left fun e=>?_
   subst e;exact irr _ (hA.1 _ hx)
  ·refine (List.mem_cons.1 ((h x).2 (List.mem_cons_of_mem _ hx))).resolve_left fun e=>?_
   subst e;exact irr _ (hB.1 _ hx)
theorem strict_same {A B:List Int} (hA:Strict A) (hB:Strict B) (h:∀x,x∈A↔x∈B):A=B:=eq_of_mem (r:=(·<·)) (fun a=>by omega) (fun a b h1 h2=>by omega) hA hB h
theorem rising_same {A B:List ID} (hA:Rising A) (hB:Rising B) (h:∀x,x∈A↔x∈B):A=B :=
 eq_of_mem (r:=fun a b=>cmpID a b<0) (fun a h=>by rw [cmpID_lt]at h;omega) (fun a b h1 h2=>by rw [cmpID_lt]at h1 h2;omega) hA hB h
theorem rising_sameA {A B:List Advert} (hA:Rising (A.map (·.id))) (hB:Rising (B.map (·.id))) (h:∀x,x∈A↔x∈B):A=B :=
 eq_of_mem (r:=fun a b:Advert=>cmpID a.id b.id<0) (fun a h=>by rw [cmpID_lt]at h;omega) (fun a b h1 h2=>by rw [cmpID_lt]at h1 h2;omega) (List.pairwise_map.1 hA) (List.pairwise_map.1 hB) h
structure LearnO (nr:List Int) (b:Broker) (L:List Advert):Prop where
 inv:InvB 11 nr b L.length
 adv:∀x,x∈b.adverts↔x∈L
 seen:∀x,x∈b.seen↔x∈L.map (·.id)
 len:b.adverts.length=L.length
theorem LearnO.start (nr:List Int):LearnO nr ⟨11,nr,[],[],[],[]⟩ []:=⟨.start 11 nr,fun x=>by simp,fun x=>by simp,rfl⟩
theorem LearnO.learn {nr:List Int} {b:Broker} {L:List Advert} (h:LearnO nr b L) {a:Advert} (hn:a.id ∉ L.map (·.id)) (hp:a.parent=-1) (hr:PredOk a.pred):LearnO nr (learnB b a).1 (L++[a]):=by
 have hno:a.id ∉ b.seen:=fun q=>hn ((h.seen _).1 q)
 have hi:=h.inv.learn a (.inl hp) hr
 refine ⟨by simpa using hi,fun x=>?_,fun x=>?_,?_⟩
 ·unfold learnB
  rw [if_neg hno]
  simp only [ins_mem,h.adv,List.mem_append,List.mem_singleton]
  exact Or.comm
 ·unfold learnB
  rw [if_neg hno]
  simp only [ins_mem,h.seen,List.map_append,List.mem_append,List.map_cons,List.map_nil,List.mem_singleton]
  exact Or.comm
 ·unfold learnB
  rw [if_neg hno]
  simp only [ins_len,h.len,List.length_append,List.length_singleton]
theorem LearnO.same {nr ns:List Int} {b c:Broker} {L M:List Advert} (hb:LearnO nr b L) (hc:LearnO ns c M) (hn:nr=ns) (hp:M.Perm L):b=c:=by
 have e1:b.adverts=c.adverts:=rising_sameA hb.inv.ra hc.inv.ra fun x=>by rw [hb.adv,hc.adv,hp.mem_iff]
 have e2:b.seen=c.seen:=rising_same hb.inv.rs hc.inv.rs fun x=>by rw [hb.seen,hc.seen,(hp.map _).mem_iff]
 have m1:=hb.inv.me;have m2:=hc.inv.me
 have n1:=hb.inv.near;have n2:=hc.inv.near
 have x1:=hb.inv.ent;have x2:=hc.inv.ent
 have o1:=hb.inv.own;have o2:=hc.inv.own
 cases b;cases c
 simp only at *
 subst m1 m2 n1 n2 x1 x2 o1 o2 e1 e2 hn
 rfl
structure AdvI (l:List Advert) (ks:List ID) (n:Nat):Prop where
 nd:ks.Nodup
 ids:∀y,y∈ks↔y∈l.map (·.id)
 ndl:(l.map (·.id)).Nodup
 len:l.length≤n
 par:∀a∈l,a.parent=-1
 prd:∀a∈l,PredOk a.pred
theorem AdvI.old {l:List Advert} {ks:List ID} {n:Nat} (h:AdvI l ks n) {x:ID} (hx:x∈ks):AdvI l (addSet x ks) (n+1) :=
 ⟨addSet_nodup h.nd,fun y=>by rw [addSet_mem,h.ids];exact ⟨fun q=>q.elim (fun e=>by rw [e];exact (h.ids _).1 hx) _root_.id,.inr⟩,h.ndl,Nat.le_succ_of_le h.len,h.par,h.prd⟩
theorem AdvI.new {l:List Advert} {ks:List ID} {n:Nat} (h:AdvI l ks n) {x:ID} {p:Pred} (hx:x ∉ ks) (hp:PredOk p):AdvI (l++[⟨x,p,-1⟩]) (addSet x ks) (n+1):=by
 refine ⟨addSet_nodup h.nd,fun y=>?_,?_,?_,fun a ha=>?_,fun a ha=>?_⟩
 ·rw [addSet_mem,h.ids];simp only [List.map_append,List.map_cons,List.map_nil,List.mem_append,List.mem_singleton];exact Or.comm
 ·rw [List.map_append,List.map_cons,List.map_nil,List.nodup_append]
  refine ⟨h.ndl,by simp,fun a ha b hb e=>?_⟩
  rw [List.mem_singleton]at hb
  subst hb e
  exact hx ((h.ids _).2 ha)
 ·have:=h.len;simp;omega
 ·rcases List.mem_append.1 ha with q|q
  ·exact h.par a q
  ·rw [List.mem_singleton]at q;subst q;rfl
 ·rcases List.mem_append.1 ha with q|q
  ·exact h.prd a q
  ·rw [List.mem_singleton]at q;subst q;exact hp
theorem notAt_own {lo:Nat} {h:Heap} {v:DV} {ety sz:Nat} {xs:List DV} (o:OwnR lo h v ety sz xs):NotAt v h.n:=by
 cases o with
 | nil hv hx=>intro a b c e;rw [hv]at e;cases e
 | arr id sp cap hv hg hl hi =>
  intro a b c e
  rw [hv]at e
  injection e with e1
  have:=get_some_lt hg
  omega
structure AdvH (h:Heap) (has vals:List Int) (ks:List ID):Prop where
 g0:h.get 0=some (.arr 24 2 [.agg [eL false 1 cInt has,eL false 1 cInt vals]] (some 1))
 g1:h.get 1=some (.mp (eSet ks))
 lim:h.lim=0
 n:2≤h.n
 wf:WF h
set_option maxRecDepth 16000 in
set_option maxHeartbeats 8000000 in
theorem a6 (S:List Fr) (t:Bool) (ns has vals:List Int) (hhas:has.length≤9223372036854775807) (P:Res→Prop) :
  ∀(k i:Nat) (l:List Advert) (ks:List ID) (f:FEnv) (h:Heap),i+k=8→AdvI l ks i→AdvH h has vals ks→OwnR 2 h (f 9) 41 4 (l.map eAdvert)→f 0=eL t 1 cInt ns→f 7=.ptr 0 2 0 0→f 10=.map 1→f 11=.int .i64 i →
  (∀l' ks' F H,AdvI l' ks' 8→AdvH H has vals ks'→OwnR 2 H (F 9) 41 4 (l'.map eAdvert)→(∀r,r<9→F r=f r)→P (run D 194 S t6k4 F H)) →
  P (run D 194 (.block 0::.seq t6k4::S) (.loop t6l0) f h):=by
 have kk:∀r,r<9→∀q,9≤q→¬r=q:=fun r hr q hq=>by omega
 intro k
 induction k with
 | zero =>
  intro i l ks f h hk hv hh ho h0 h7 h10 h11 hfin
  have hi:i=8:=by omega
  subst hi
  rw [run_loop_of t6l0.eq_1]
  by_cases a1:8<ns.length
  ·have a1':(8:Int)<ns.length:=by omega
   simp [h0,h11,a1,a1']
   exact hfin l ks _ h hv hh (by simpa using ho) fun r hr=>by simp [kk r hr]
  ·have a1':¬(8:Int)<ns.length:=by omega
   simp [h0,h11,a1,a1']
   exact hfin l ks _ h hv hh (by simpa using ho) fun r hr=>by simp [kk r hr]
 | succ k ih =>
  intro i l ks f h hk hv hh ho h0 h7 h10 h11 hfin
  have hle:=hv.len
  rw [run_loop_of t6l0.eq_1]
  by_cases a1:i<ns.length
  ·have a1':(i:Int)<ns.length:=by omega
   have a8:i<8:=by omega
   have a8':(i:Int)<8:=by omega
   obtain ⟨g0,g1,hlim,hn,wf⟩:=hh
   have hw:IntKind.i64.wrap ((i:Int)+1)=(i:Int)+1:=wrap64 (by omega) (by omega)
   obtain ⟨cv,hcv⟩:∃ cv,ns[i]=cv:=⟨_,rfl⟩
   obtain ⟨sv,hsv⟩:∃ sv:Int,arithD .quo (.int .i64 cv) (.int .i64 4)=some (.int .i64 sv):=⟨_,rfl⟩
   have w1:=s8 cv 0 3 (by decide) (by decide) (by decide)
   have w2:=s8 sv 0 3 (by decide) (by decide) (by decide)
   have hpr:=s10 false false has vals hhas
   have hpo:=mkPred_ok has vals
   obtain ⟨p,hp⟩:∃ p,mkPred has vals=p:=⟨_,rfl⟩
   rw [hp]at hpr hpo
   obtain ⟨c,hc⟩:∃ c,within cv 0 3=c:=⟨_,rfl⟩
   obtain ⟨d,hd⟩:∃ d,within sv 0 3=d:=⟨_,rfl⟩
   rw [hc]at w1
   rw [hd]at w2
   have hlk:=lookup_set hv.nd c d
   have hup:=fun (H:Heap) (hl:H.lim≤1)=>upd_set (h:=H) (id:=1) hv.nd hl c d
   have n0:¬0=h.n:=by omega
   have n1:¬1=h.n:=by omega
   have n2:¬h.n=0:=by omega
   have n3:¬h.n=1:=by omega
   have n4:¬0=h.n+1:=by omega
   have n5:¬1=h.n+1:=by omega
   have l1:1<h.n:=by omega
   by_cases hm:(⟨c,d⟩:ID)∈ks
   ·have nv:=hv.old hm
    rw [decide_eq_true hm]at hlk
    simp [h0,h7,h10,h11,a1,a1',a8,a8',hcv,cInt,hsv,e8,w1,w2,g0,g1,hlim,wf,hw,n0,n1,n2,n3,l1,turn,entriesV_map,entO_some,hlk,updateV_map,hup,t6s0]
    generalize hF:upd _ 11 _=F
    refine ih (i+1) l _ F _ (by omega) nv ⟨?_,?_,?_,?_,?_⟩ ?_ (by rw [←hF];simp [h0]) (by rw [←hF];simp [h7]) (by rw [←hF];simp [h10]) (by rw [←hF];simp) fun l' ks' F' H' b1 b2 b3 b4=>hfin l' ks' F' H' b1 b2 b3 fun r hr=>?_
    ·simp [n0,n1,wf,l1,g0]
    ·simp [n1,wf,l1]
    ·simp [hlim]
    ·simp;omega
    ·simp [wf]
    ·rw [←hF]
     simpa using (ho.setLow wf (by decide) l1).push
    ·rw [b4 r hr,←hF];simp [kk r hr]
   ·have nv:=hv.new hm hpo
    rw [decide_eq_false hm]at hlk
    simp [h0,h7,h10,h11,a1,a1',a8,a8',hcv,cInt,hsv,e8,w1,w2,g0,g1,hlim,wf,hw,n0,n1,n2,n3,l1,turn,entriesV_map,entO_some,hlk,updateV_map,hup,t6s0,e10,hpr]
    generalize hA:appendD _ _ _ _ _ _=A
    obtain ⟨v',K,rfl,o',x',fr,na⟩:=append_frame ho.push.push (by simp [wf]) (by simp<;>omega) (by simp [hlim]) hA (by simp<;>omega) (by decide)
    clear hA
    have G0:=x'.get 0 (by decide)
    have G1:=x'.get 1 (by decide)
    have Kl:=x'.lim
    have Kw:=x'.wf
    have Kn:=x'.le
    simp [n0,n1,n4,n5,g0,g1,hlim]at G0 G1 Kl
    have GX:=fr h.n (by simp<;>omega) (notAt_own ho)
    simp at GX
    have k0:1<K.n:=by omega
    have q0:h.n<K.n:=get_some_lt GX
    simp [h10,h11,G0,G1,GX,Kl,Kw,k0,q0,n0,n1,n2,n3,wf,hw,turn,entriesV_map,entO_some,updateV_map,hup]
    generalize hF:upd _ 11 _=F
    refine ih (i+1) _ _ F _ (by omega) nv ⟨?_,?_,?_,?_,?_⟩ ?_ (by rw [←hF];simp [h0]) (by rw [←hF];simp [h7]) (by rw [←hF];simp [h10]) (by rw [←hF];simp) fun l' ks' F' H' b1 b2 b3 b4=>hfin l' ks' F' H' b1 b2 b3 fun r hr=>?_
    ·simp [Kw,k0,G0]
    ·simp [Kw,k0]
    ·simp [Kl]
    ·simp;omega
    ·simp [Kw]
    ·rw [←hF]
     have:=o'.setLow (o:=.mp (eSet (addSet ⟨c,d⟩ ks))) Kw (show 1<2 by decide) k0
     simpa [eAdvert] using this
    ·rw [b4 r hr,←hF];simp [kk r hr]
  ·have a1':¬(i:Int)<ns.length:=by omega
   simp [h0,h11,a1,a1']
   exact hfin l ks _ h {hv with len:=by omega} hh (by simpa using ho) fun r hr=>by simp [kk r hr]
end Go.Dm.Tc
/-
AdvertsOrder: the row turned;the neighbours' row.
-/
namespace Go.Dm.Tc
def aheadA (k:Nat) (ts:List Advert):List Advert:=match ts[k]? with|some e=>e::(ts.take k++ts.drop (k+1))|none=>ts
theorem aheadA_perm {k:Nat} {ts:List Advert} (hk:k<ts.length):(aheadA k ts).Perm ts:=by
 unfold aheadA
 rw [List.getElem?_eq_getElem hk]
 have:ts=ts.take k++ts[k]::ts.drop (k+1):=by rw [←List.drop_eq_getElem_cons hk,List.take_append_drop]
 exact (List.perm_middle.symm).trans (.of_eq this.symm)
set_option maxRecDepth 8000 in
set_option maxHeartbeats 4000000 in
theorem bh6 (S:List Fr) (ord:List Int) (hol:ord.length≤9223372036854775807) (es:List Advert) (he8:es.length≤8) (h0:Heap) (hlim:h0.lim=0) (P:Res→Prop) :
  ∀(rest:List Int) (j:Nat) (ts:List Advert) (f:FEnv) (h:Heap),ord.drop j=rest→j≤ord.length→ts.Perm es→Ext h0.n h0 h→OwnR h0.n h (f 13) 41 4 (ts.map eAdvert)→f 1=eL false 1 cInt ord→f 14=.int .i64 j →
  (∀(ts':List Advert) F H,ts'.Perm es→Ext h0.n h0 H→OwnR h0.n H (F 13) 41 4 (ts'.map eAdvert)→(∀r,r<13→F r=f r)→P (run D 194 S t6k3 F H)) →
  P (run D 194 (.block 2::.seq t6k3::S) (.loop t6l1) f h):=by
 have kk:∀r,r<13→∀q,13≤q→¬r=q:=fun r hr q hq=>by omega
 intro rest
 induction rest with
 | nil =>
  intro j ts f h hd hj hp x ho h1 h14 hfin
  have hj':=drop_nil hd
  have:¬(j<ord.length):=by omega
  rw [run_loop_of t6l1.eq_1]
  simp [h1,h14,this]
  exact hfin ts _ h hp x (by simpa using ho) fun r hr=>by simp [kk r hr]
 | cons o rest ih =>
  intro j ts f h hd hj hp x ho h1 h14 hfin
  obtain ⟨hlt,hoe,hd'⟩:=drop_at hd
  have htl:ts.length=es.length:=hp.length_eq
  have hlen:=ho.lenV
  rw [List.length_map]at hlen
  have hw:IntKind.i64.wrap ((j:Int)+1)=(j:Int)+1:=wrap64 (by omega) (by omega)
  have xl:h.lim=0:=by rw [x.lim];exact hlim
  have xn:=x.le
  have xw:=x.wf
  rw [run_loop_of t6l1.eq_1]
  by_cases h2:1<ts.length
  ·have h2':(1:Int)<ts.length:=by omega
   have hw0:IntKind.i64.wrap ((ts.length:Int)-1)=(ts.length:Int)-1:=wrap64 (by omega) (by omega)
   have hb:=within_bounds o (show (0:Int)≤(ts.length:Int)-1 by omega)
   obtain ⟨k,hk⟩:∃ k:Nat,within o 0 ((ts.length:Int)-1)=k:=⟨(within o 0 ((ts.length:Int)-1)).toNat,by omega⟩
   have hW:=s8 o 0 ((ts.length:Int)-1) (by omega) (by omega) (by omega)
   rw [hk]at hW
   have hkl:k<ts.length:=by omega
   obtain ⟨e,he⟩:∃ e,ts[k]=e:=⟨_,rfl⟩
   cases ho with
   | nil hv hx=>exfalso;have:ts=[]:=(by simpa using hx);subst this;simp at h2
   | arr id sp cap hv hg hl8 hlo =>
    have hid:=get_some_lt hg
    simp only [List.length_map]at hv
    have q2:¬id=h.n:=by omega
    have q5:¬h.n=id:=by omega
    have q3:¬id=h.n+1:=by omega
    have q4:¬h.n+1=id:=by omega
    have hw1:IntKind.i64.wrap ((k:Int)+1)=(k:Int)+1:=wrap64 (by omega) (by omega)
    have hia:indexAddrV 4 (.sl id 4 0 ts.length) (.int .i64 (k:Int))=some (.ptr id 4 k 0):=by simp [indexAddrV,asI,hkl]
    have hel:(ts.map eAdvert++sp)[k]?=some (eAdvert e):=by
     rw [List.getElem?_append_left (by simpa using hkl),List.getElem?_map,List.getElem?_eq_getElem hkl,he];rfl
    have hs1:∀H':Heap,H'.get id=some (.arr 41 4 (ts.map eAdvert++sp) cap)→sliceV H' 4 (.sl id 4 0 ts.length) none (some (.int .i64 (k:Int)))=some (.sl id 4 0 k):=fun H' hg=>by
     simp only [sliceV,hg]
     rw [if_pos ⟨trivial,trivial,by simp⟩]
     simp only [boundV,asI]
     rw [if_pos ⟨by omega,by simp;omega⟩]
     simp
    have hs2:∀H':Heap,H'.get id=some (.arr 41 4 (ts.map eAdvert++sp) cap)→sliceV H' 4 (.sl id 4 0 ts.length) (some (.int .i64 ((k:Int)+1))) none=some (.sl id 4 (k+1) (ts.length-(k+1))):=fun H' hg=>by
     have:((k:Int)+1).toNat=k+1:=by omega
     simp only [sliceV,hg]
     rw [if_pos ⟨trivial,trivial,by simp⟩]
     simp only [boundV,asI]
     rw [if_pos ⟨by omega,by omega⟩,this]
     simp
    have he1:elemsO 4 4 0 k (some (.arr 41 4 (ts.map eAdvert++sp) cap))=some ((ts.take k).map eAdvert):=by
     rw [elemsO_some,if_pos ⟨rfl,rfl,by simp;omega⟩,List.drop_zero,List.take_append_of_le_length (by simp;omega),List.map_take]
    have he2:elemsO 4 4 (k+1) (ts.length-(k+1)) (some (.arr 41 4 (ts.map eAdvert++sp) cap))=some ((ts.drop (k+1)).map eAdvert):=by
     rw [elemsO_some,if_pos ⟨rfl,rfl,by simp;omega⟩,List.drop_append_of_le_length (by simp;omega),List.take_left' (by simp),List.map_drop]
    have he3:∀xs,elemsO 4 4 0 1 (some (.arr 41 4 [xs] (some 1)))=some [xs]:=fun xs=>by simp
    simp only [eAdvert]at hel
    simp [h1,h14,hlt,hoe,cInt,hv,h2,h2',hw0,e8,hW,hia,hel,hg,xl,xw,q2,q3,q4,q5,hs1,hs2,he1,he2,he3,-elemsO_some]
    generalize hA:appendD _ _ _ _ _ _=A
    obtain ⟨i1,K1,rfl,o1,x1,_,_⟩:=((OwnI.fresh (lo:=h.n) (h:=h) (ety:=41) (sz:=4) (xs:=[]) (cap:=some 0) (by simp [xl]) (Nat.le_refl _)).push (o:=_)).append (id:=h.n) (n:=0) rfl (by simp [xw]) (by simp;omega) (by simp [xl]) hA (by simp) (by decide)
    clear hA
    have u1:=o1.lo
    have a8:=x1.get id hid
    have al:=x1.lim
    have aw:=x1.wf
    have an:=x1.le
    simp [q2,q3,hg,xl]at a8 al
    have v1:¬id=i1:=by omega
    simp [h14,hv,a8,al,aw,hg,q2,q3,q4,q5,hs1,hs2,he1,he2,hw1,v1,-elemsO_some]
    generalize hA:appendD _ _ _ _ _ _=A
    obtain ⟨i2,K2,rfl,o2,x2,_,j2⟩:=o1.append (n:=1) rfl aw (by omega) (by omega) hA (by simp<;>omega) (by decide)
    clear hA
    have u2:=o2.lo
    have b8:=x2.get id hid
    have bl:=x2.lim
    have bw:=x2.wf
    have bn:=x2.le
    rw [a8]at b8
    rw [al]at bl
    have v2:¬id=i2:=by omega
    have v3:¬i1=id:=by omega
    simp [h14,hv,b8,bl,bw,a8,hg,q2,q3,q4,q5,hs1,hs2,he1,he2,hw1,v1,v2,v3,-elemsO_some]
    generalize hA:appendD _ _ _ _ _ _=A
    obtain ⟨i3,K3,rfl,o3,x3,_,_⟩:=o2.append (n:=1+min k ts.length) (by simp<;>omega) bw (by omega) (by omega) hA (by simp<;>omega) (by decide)
    clear hA
    simp [t6s1,h14,hw]
    generalize hF:upd _ 14 _=F
    have hah:aheadA k ts=e::(ts.take k++ts.drop (k+1)):=by unfold aheadA;rw [List.getElem?_eq_getElem hkl,he]
    have hrow:=o3.toR
    have hlen3:([]++[DV.agg [.int .i64 e.id.client,.int .i64 e.id.seq,ePred e.pred,.int .i64 e.parent]]++List.take k (List.map eAdvert ts)++List.drop (k+1) (List.map eAdvert ts))=(aheadA k ts).map eAdvert:=by rw [hah];simp [eAdvert]
    rw [hlen3]at hrow
    have hrow2:OwnR h0.n K3 (.sl i3 4 0 ((aheadA k ts).map eAdvert).length) 41 4 ((aheadA k ts).map eAdvert):=by
     cases hrow with
     | nil hv hx=>exact .nil hv hx
     | arr id' sp' cap' hv hg hl hi=>exact .arr id' sp' cap' hv hg hl (by omega)
    have xK:Ext h0.n h0 K3:=x.trans ⟨by have:=x3.le;omega,by rw [x3.lim,bl,xl],fun q hq=>by
     rw [x3.get q (by omega),x2.get q (by omega),x1.get q (by omega)]
     have:¬q=h.n:=by omega
     have:¬q=h.n+1:=by omega
     simp [*],x3.wf⟩
    refine ih (j+1) (aheadA k ts) F K3 hd' (by omega) ((aheadA_perm hkl).trans hp) xK ?_ (by rw [←hF];simp [h1]) (by rw [←hF];simp) fun ts' F' H' a1 a2 a3 a4=>hfin ts' F' H' a1 a2 a3 fun r hr=>?_
    ·rw [←hF]
     have:(.sl i3 4 0 (min k ts.length+1+(ts.length-(k+1))):DV)=.sl i3 4 0 ((aheadA k ts).map eAdvert).length:=by rw [hah];simp;omega
     rw [←this]at hrow2
     exact hrow2
    ·rw [a4 r hr,←hF];simp [kk r hr]
  ·have h2':¬(1:Int)<ts.length:=by omega
   simp [h1,h14,hlt,hlen,h2']
   exact hfin ts _ h hp x (by simpa using ho) fun r hr=>by simp [kk r hr]
end Go.Dm.Tc
/-
AdvertsOrder: the neighbours' row;both told.
-/
namespace Go.Dm.Tc
set_option maxRecDepth 8000 in
set_option maxHeartbeats 4000000 in
theorem ch6 (S:List Fr) (t:Bool) (near:List Int) (h0:Heap) (hlim:h0.lim=0) (P:Res→Prop) :
  ∀(k i:Nat) (own:List Int) (f:FEnv) (h:Heap),i+k=6→own.length≤i→Ext h0.n h0 h→OwnR h0.n h (f 16) 3 1 (own.map cInt)→f 2=eL t 1 cInt near→f 17=.int .i64 i →
  (∀(own':List Int) F H,own'.length≤6→Ext h0.n h0 H→OwnR h0.n H (F 16) 3 1 (own'.map cInt)→(∀r,r<16→F r=f r)→P (run D 194 S t6k2 F H)) →
  P (run D 194 (.block 4::.seq t6k2::S) (.loop t6l2) f h):=by
 have kk:∀r,r<16→∀q,16≤q→¬r=q:=fun r hr q hq=>by omega
 intro k
 induction k with
 | zero =>
  intro i own f h hk hl x ho h2 h17 hfin
  have hi:i=6:=by omega
  subst hi
  rw [run_loop_of t6l2.eq_1]
  by_cases a1:6<near.length
  ·have a1':(6:Int)<near.length:=by omega
   simp [h2,h17,a1,a1']
   exact hfin own _ h hl x (by simpa using ho) fun r hr=>by simp [kk r hr]
  ·have a1':¬(6:Int)<near.length:=by omega
   simp [h2,h17,a1,a1']
   exact hfin own _ h hl x (by simpa using ho) fun r hr=>by simp [kk r hr]
 | succ k ih =>
  intro i own f h hk hl x ho h2 h17 hfin
  rw [run_loop_of t6l2.eq_1]
  by_cases a1:i<near.length
  ·have a1':(i:Int)<near.length:=by omega
   have a6:i<6:=by omega
   have a6':(i:Int)<6:=by omega
   have hw:IntKind.i64.wrap ((i:Int)+1)=(i:Int)+1:=wrap64 (by omega) (by omega)
   have xl:h.lim=0:=by rw [x.lim];exact hlim
   have xn:=x.le
   have xw:=x.wf
   obtain ⟨cv,hcv⟩:∃ cv,near[i]=cv:=⟨_,rfl⟩
   have w1:=s8 cv 0 9 (by decide) (by decide) (by decide)
   obtain ⟨c,hc⟩:∃ c,within cv 0 9=c:=⟨_,rfl⟩
   rw [hc]at w1
   simp [h2,h17,a1,a1',a6,a6',hcv,cInt,e8,w1,xl,xw]
   generalize hA:appendD _ _ _ _ _ _=A
   obtain ⟨v',K,rfl,o',x',fr,na⟩:=append_frame ho.push (by simp [xw]) (by simp;omega) (by simp [xl]) hA (by simp<;>omega) (by decide)
   clear hA
   have xK:Ext h0.n h0 K:=x.push.trans x'
   simp [t6s2,h17,hw]
   generalize hF:upd _ 17 _=F
   refine ih (i+1) (own++[c]) F K (by omega) (by simp;omega) xK ?_ (by rw [←hF];simp [h2]) (by rw [←hF];simp) fun own' F' H' b1 b2 b3 b4=>hfin own' F' H' b1 b2 b3 fun r hr=>?_
   ·rw [←hF]
    simpa [cInt] using o'
   ·rw [b4 r hr,←hF];simp [kk r hr]
  ·have a1':¬(i:Int)<near.length:=by omega
   simp [h2,h17,a1,a1']
   exact hfin own _ h (by omega) x (by simpa using ho) fun r hr=>by simp [kk r hr]
structure TwoH (h0 h:Heap) (p:Nat) (b c:Broker):Prop where
 gb:h.get p=some (.arr 30 6 [eBroker .none b] (some 1))
 gc:h.get (p+1)=some (.arr 30 6 [eBroker .none c] (some 1))
 lim:h.lim=0
 n:h0.n≤p
 wf:WF h
 rest:∀i,i<h0.n→h.get i=h0.get i
theorem rowA_at {lo : Nat} {h : Heap} {v : DV} {sz ety : Nat} {α : Type} {en : α → DV} {es : List α} (o : OwnR lo h v ety sz (es.map en)) {i : Nat} (hi : i < es.length) : ∃ id, v = .sl id sz 0 es.length ∧ id < h.n ∧ ∃ xs cap, h.get id = some (.arr ety sz xs cap) ∧ xs[i]? = some (en es[i]) := by
  cases o with
  | nil hv hx => exfalso; have : es = [] := by simpa using hx
                 subst this; simp at hi
  | arr id sp cap hv hg _ hlo =>
    refine ⟨id, by simpa using hv, get_some_lt hg, _, cap, hg, ?_⟩
    rw [List.getElem?_append_left (by simpa using hi), List.getElem?_map, List.getElem?_eq_getElem hi]; rfl
theorem take_one {α:Type} {L:List α} {i:Nat} (h:i<L.length):L.take (i+1)=L.take i++[L[i]]:=by
 rw [List.take_succ,List.getElem?_eq_getElem h];rfl
theorem fresh_take {L:List Advert} (h:(L.map (·.id)).Nodup) {i:Nat} (hi:i<L.length):L[i].id ∉ (L.take i).map (·.id):=by
 intro hm
 obtain ⟨a,ha,e⟩:=List.mem_map.1 hm
 obtain ⟨j,hj,rfl⟩:=List.mem_take_iff_getElem.1 ha
 have:=List.pairwise_iff_getElem.1 h j i (by simp;omega) (by simpa using hi) (by omega)
 simp only [List.getElem_map]at this
 exact this e
set_option maxRecDepth 8000 in
set_option maxHeartbeats 4000000 in
theorem d6 (S:List Fr) (l ts:List Advert) (h8:l.length≤8) (hts:ts.Perm l) (hnd:(l.map (·.id)).Nodup) (hpa:∀a∈l,a.parent=-1) (hpr:∀a∈l,PredOk a.pred) (nr ns:List Int) (hnr:nr.length≤100) (hns:ns.length≤100) (h0:Heap) (hlim:h0.lim=0) (p:Nat) (v9 v13:DV) (o9:OwnR 2 h0 v9 41 4 (l.map eAdvert)) (o13:OwnR 2 h0 v13 41 4 (ts.map eAdvert)) (P:Res→Prop) :
  ∀(k i:Nat) (b c:Broker) (f:FEnv) (h:Heap),l.length-i=k→i≤l.length→LearnO nr b (l.take i)→LearnO ns c (ts.take i)→TwoH h0 h p b c→f 9=v9→f 13=v13→f 18=.ptr p 6 0 0→f 19=.ptr (p+1) 6 0 0→f 124=.int .i64 l.length→f 125=.int .i64 i →
  (∀b c F H,LearnO nr b l→LearnO ns c ts→TwoH h0 H p b c→F 9=v9→F 18=.ptr p 6 0 0→F 19=.ptr (p+1) 6 0 0→P (run D 194 S t6k1 F H)) →
  P (run D 194 (.block 6::.seq t6k1::S) (.loop t6l3) f h):=by
 have htl:=hts.length_eq
 have hndT:(ts.map (·.id)).Nodup:=((hts.map _).nodup_iff).2 hnd
 intro k
 induction k with
 | zero =>
  intro i b c f h hk hi hb hc hh h9 h13 h18 h19 h124 h125 hfin
  have hie:i=l.length:=by omega
  subst hie
  rw [List.take_length]at hb
  rw [←htl,List.take_length]at hc
  rw [run_loop_of t6l3.eq_1]
  simp [h124,h125]
  exact hfin b c _ h hb hc hh (by simp [h9]) (by simp [h18]) (by simp [h19])
 | succ k ih =>
  intro i b c f h hk hi hb hc hh h9 h13 h18 h19 h124 h125 hfin
  have hlt:i<l.length:=by omega
  have hltT:i<ts.length:=by omega
  obtain ⟨id1,e1,e2,xs1,cp1,e3,e4⟩:=rowA_at o9 hlt
  obtain ⟨id2,r1,r2,xs2,cp2,r3,r4⟩:=rowA_at o13 hltT
  have hfr:=fresh_take hnd hlt
  have hfrT:=fresh_take hndT hltT
  have hm1:l[i]∈l:=List.getElem_mem hlt
  have hm2:ts[i]∈l:=hts.mem_iff.1 (List.getElem_mem hltT)
  have nb:=hb.learn hfr (hpa _ hm1) (hpr _ hm1)
  have nc:=hc.learn hfrT (hpa _ hm2) (hpr _ hm2)
  rw [←take_one hlt]at nb
  rw [←take_one hltT]at nc
  have zb:=hb.inv.sized (by simp;omega) (by omega)
  have zc:=hc.inv.sized (by simp;omega) (by omega)
  obtain ⟨x,hx⟩:∃ x,l[i]=x:=⟨_,rfl⟩
  obtain ⟨y,hy⟩:∃ y,ts[i]=y:=⟨_,rfl⟩
  rw [hx]at e4 nb
  rw [hy]at r4 nc
  have hL:pcF D t9 [eBroker .none b,eAdvert x]=some (.tup [eBroker .none (learnB b x).1,.bool (learnB b x).2]):=s9 .none b x.id.client x.id.seq x.pred x.parent zb hb.inv.ra hb.inv.rs
  have hM:pcF D t9 [eBroker .none c,eAdvert y]=some (.tup [eBroker .none (learnB c y).1,.bool (learnB c y).2]):=s9 .none c y.id.client y.id.seq y.pred y.parent zc hc.inv.ra hc.inv.rs
  obtain ⟨b',hb'⟩:∃ b',(learnB b x).1=b':=⟨_,rfl⟩
  obtain ⟨c',hc'⟩:∃ c',(learnB c y).1=c':=⟨_,rfl⟩
  rw [hb']at hL nb
  rw [hc']at hM nc
  have hw:IntKind.i64.wrap ((i:Int)+1)=(i:Int)+1:=wrap64 (by omega) (by omega)
  obtain ⟨gb,gc,xl,xn,xw,xr⟩:=hh
  have lb:=get_some_lt gb
  have lc:=get_some_lt gc
  have n1:¬id1=p:=by omega
  have n2:¬id1=p+1:=by omega
  have n3:¬id2=p:=by omega
  have n4:¬id2=p+1:=by omega
  have n5:¬p=p+1:=by omega
  have n6:¬p+1=p:=by omega
  have m1:¬p=id1:=by omega
  have m2:¬p=id2:=by omega
  have m3:¬p+1=id1:=by omega
  have m4:¬p+1=id2:=by omega
  have E3:=(xr id1 e2).trans e3
  have R3:=(xr id2 r2).trans r3
  have hia:∀id,indexAddrV 4 (.sl id 4 0 l.length) (.int .i64 (i:Int))=some (.ptr id 4 i 0):=fun id=>by simp [indexAddrV,asI,hlt]
  rw [htl]at r1
  simp only [eAdvert]at e4 r4 hL hM
  have hlt':(i:Int)<l.length:=by omega
  rw [run_loop_of t6l3.eq_1]
  simp [h9,h13,h18,h19,h124,h125,hlt,hlt',e1,r1,hia,E3,R3,e4,r4,gb,gc,xl,xw,lb,lc,n1,n2,n3,n4,n5,n6,m1,m2,m3,m4,e9,hL,hM,turn,t6s3,hw]
  generalize hF:upd _ 125 _=F
  refine ih (i+1) b' c' F _ (by omega) (by omega) nb nc ⟨?_,?_,?_,xn,?_,?_⟩ (by rw [←hF];simp [h9]) (by rw [←hF];simp [h13]) (by rw [←hF];simp [h18]) (by rw [←hF];simp [h19]) (by rw [←hF];simp [h124]) (by rw [←hF];simp) hfin
  ·simp [xw,lb,lc,n5,n6]
  ·simp [xw,lb,lc,n5,n6]
  ·simp [xl]
  ·simp [xw]
  ·intro j hj
   have j1:¬j=p:=by omega
   have j2:¬j=p+1:=by omega
   simp [xw,lb,lc,j1,j2,xr j hj]
end Go.Dm.Tc
/-
AdvertsOrder: the law's walk,to its end.
-/
namespace Go.Dm.Tc
theorem strict_rises:∀{l:List Int},Strict l→risesB (fun x y=>decide (x<y)) l=true
 | [],_=>rfl
 | [a],_=>rfl
 | a::b::r,h=>by
  have h':=List.pairwise_cons.1 h
  have h1:=h'.1 b (List.mem_cons_self ..)
  simp [risesB,h1,strict_rises (l:=b::r) h'.2]
theorem TwoH.push {h0 h:Heap} {p:Nat} {b c:Broker} (w:TwoH h0 h p b c) {o:DO}:TwoH h0 (h.push o) p b c:=by
 obtain ⟨gb,gc,xl,xn,xw,xr⟩:=w
 have lb:=get_some_lt gb
 have lc:=get_some_lt gc
 refine ⟨?_,?_,xl,xn,xw.push,fun i hi=>?_⟩
 ·rw [get_push,if_neg (by omega)];exact gb
 ·rw [get_push,if_neg (by omega)];exact gc
 ·rw [get_push,if_neg (by omega)];exact xr i hi
set_option maxRecDepth 8000 in
set_option maxHeartbeats 4000000 in
theorem g6 (l : List Advert) (nr : List Int) (hnr : nr.length ≤ 100) (hst : Strict nr) (b : Broker) (h8 : l.length ≤ 8) (hb : LearnO nr b l) (h0 : Heap) (p : Nat) (v9 : DV) (o9 : OwnR 2 h0 v9 41 4 (l.map eAdvert)) (f : FEnv) (h : Heap) (hh : TwoH h0 h p b b) (h9 : f 9 = v9) (h18 : f 18 = .ptr p 6 0 0) (h19 : f 19 = .ptr (p + 1) 6 0 0) :
    pcOut (fin [.t 8] (run D 194 [] t6k0 f h)) = some (.bool true) := by
  have zb := hb.inv.sized (by omega) (by omega)
  have hS := s26 .none .none b b zb hb.inv.sizedP
  rw [decide_eq_true rfl] at hS
  have hR := s15 .none b zb hb.inv.sizedN
  rw [hb.inv.right (strict_rises hst)] at hR
  have hme := hb.inv.me
  have hlen := hb.len
  obtain ⟨gb, gc, xl, xn, xw, xr⟩ := hh
  have hl9 : ∀ H, lenV H 1 v9 = some (.int .i64 l.length) := by
    intro H
    cases o9 with
    | nil hv hx => have : l = [] := by simpa using hx
                   subst this; rw [hv]; rfl
    | arr id sp cap hv _ _ _ => rw [hv]; simp
  simp [t6k0, h9, h18, h19, gb, gc, xl, xw, e26, hS, e15, hR, hl9, hlen, hme, e16, s16, turn]
set_option maxRecDepth 8000 in
set_option maxHeartbeats 4000000 in
theorem f6 (l:List Advert) (nr:List Int) (hnr:nr.length≤100) (hst:Strict nr) (b:Broker) (h8:l.length≤8) (hb:LearnO nr b l) (h0:Heap) (p:Nat) (v9:DV) (o9:OwnR 2 h0 v9 41 4 (l.map eAdvert)) :
  ∀(k i:Nat) (f:FEnv) (h:Heap),b.adverts.length-i=k→i≤b.adverts.length→TwoH h0 h p b b→f 9=v9→f 18=.ptr p 6 0 0→f 19=.ptr (p+1) 6 0 0→f 148=eL false 4 eAdvert b.adverts→f 149=.int .i64 b.adverts.length→f 150=.int .i64 i →
  pcOut (fin [.t 8] (run D 194 [.block 8,.seq t6k0] (.loop t6l4) f h))=some (.bool true):=by
 intro k
 induction k with
 | zero =>
  intro i f h hk hi hh h9 h18 h19 h148 h149 h150
  have hie:i=b.adverts.length:=by omega
  subst hie
  rw [run_loop_of t6l4.eq_1]
  simp [h149,h150]
  exact g6 l nr hnr hst b h8 hb h0 p v9 o9 _ h hh (by simp [h9]) (by simp [h18]) (by simp [h19])
 | succ k ih =>
  intro i f h hk hi hh h9 h18 h19 h148 h149 h150
  have hlt:i<b.adverts.length:=by omega
  have hlt':(i:Int)<b.adverts.length:=by omega
  have hle:b.adverts.length≤8:=by rw [hb.len];exact h8
  have hw:IntKind.i64.wrap ((i:Int)+1)=(i:Int)+1:=wrap64 (by omega) (by omega)
  obtain ⟨a,ha⟩:∃ a,b.adverts[i]=a:=⟨_,rfl⟩
  have hp:=hh.push (o:=.arr 41 4 [eAdvert a] (some 1))
  obtain ⟨gb,gc,xl,xn,xw,xr⟩:=hh
  have lb:=get_some_lt gb
  have n1:¬p=h.n:=by omega
  have n2:¬h.n=p:=by omega
  rw [run_loop_of t6l4.eq_1]
  simp only [eAdvert]at hp
  by_cases hi0:i=0
  ·subst hi0
   simp [h148,h149,h150,hlt,hlt',ha,gb,xl,xw,n1,n2,turn,eAdvert,t6s4,hw,h18]
   generalize hF:upd _ 150 _=F
   exact ih 1 F _ (by omega) (by omega) hp (by rw [←hF];simp [h9]) (by rw [←hF];simp [h18]) (by rw [←hF];simp [h19]) (by rw [←hF];simp [h148]) (by rw [←hF];simp [h149]) (by rw [←hF];simp)
  ·have hi1:(0:Int)<i:=by omega
   have hi2:0<i:=by omega
   have hw1:IntKind.i64.wrap ((i:Int)-1)=((i-1:Nat):Int):=by rw [wrap64 (by omega) (by omega)];omega
   have hlt1:i-1<b.adverts.length:=by omega
   obtain ⟨z,hz⟩:∃ z,b.adverts[i-1]=z:=⟨_,rfl⟩
   have hless:ltID ⟨z.id.client,z.id.seq⟩ ⟨a.id.client,a.id.seq⟩=true:=by
    have:=List.pairwise_iff_getElem.1 hb.inv.ra (i-1) i (by simpa using hlt1) (by simpa using hlt) (by omega)
    simp only [List.getElem_map,ha,hz]at this
    rw [ltID_iff];exact cmpID_lt.1 this
   have hLs:=s14 z.id.client z.id.seq a.id.client a.id.seq
   rw [hless]at hLs
   simp [h148,h149,h150,hlt,hlt',ha,gb,xl,xw,n1,n2,turn,eAdvert,t6s4,hw,h18,hi1,hi2,hw1,hlt1,hz,e14,hLs]
   generalize hF:upd _ 150 _=F
   exact ih (i+1) F _ (by omega) (by omega) hp (by rw [←hF];simp [h9]) (by rw [←hF];simp [h18]) (by rw [←hF];simp [h19]) (by rw [←hF];simp [h148]) (by rw [←hF];simp [h149]) (by rw [←hF];simp)
theorem ownI_resolve {lo:Nat} {h:Heap} {v:DV} {ety:Nat} {xs:List Int} (o:OwnR lo h v ety 1 (xs.map cInt)):resolve true h 200 v=some (eL true 1 cInt xs) :=
 o.resolve true (fun y _=>(plain_cint y).1) (by decide)
set_option maxRecDepth 8000 in
set_option maxHeartbeats 4000000 in
theorem r6 (t u w : Bool) (ns ord near has vals : List Int) (hol : ord.length ≤ 9223372036854775807) (hhas : has.length ≤ 9223372036854775807) : pcF D t6 [eL t 1 cInt ns, eL false 1 cInt ord, eL w 1 cInt near, .agg [eL false 1 cInt has, eL false 1 cInt vals]] = some (.bool true) := by
  unfold pcF
  rw [goRun_eq _ _ _ _ (by simp [t6])]
  simp [t6]
  generalize hF0 : upd _ 11 _ = F0
  generalize hH0 : Heap.push _ _ = H0
  refine a6 [] t ns has vals hhas (fun r => pcOut (fin [.t 8] r) = some (.bool true)) 8 0 [] [] F0 H0 rfl ⟨List.nodup_nil, fun y => by simp, List.nodup_nil, Nat.le_refl _, fun a ha => (by cases ha), fun a ha => (by cases ha)⟩ ⟨?_, ?_, ?_, ?_, ?_⟩ (.nil (by rw [← hF0]; simp) rfl) (by rw [← hF0]; simp) (by rw [← hF0]; simp) (by rw [← hF0]; simp) (by rw [← hF0]; simp) fun l ks F H hl hh o9 hr => ?_
  · rw [← hH0]; simp
  · rw [← hH0]; simp [eSet]
  · rw [← hH0]; rfl
  · rw [← hH0]; exact Nat.le_refl _
  · rw [← hH0]; simp
  have F1 : F 1 = eL false 1 cInt ord := by rw [hr 1 (by decide), ← hF0]; simp
  have F2 : F 2 = eL w 1 cInt near := by rw [hr 2 (by decide), ← hF0]; simp
  have h8 := hl.len
  have Hl := hh.lim
  have Hw := hh.wf
  have Hn := hh.n
  clear hr hF0 hH0
  have hel2 : ∀ o : DO, elems (H.push o) 4 (F 9) = some (l.map eAdvert) := fun o => (o9.push (o := o)).elems
  simp [t6k4, hel2]
  generalize hA : appendD _ _ _ _ _ _ = A
  obtain ⟨v', K, rfl, o', x', fr, na⟩ := append_frame (lo := H.n) (xs := []) (.arr H.n [] (some 0) rfl (by simp) (by simp [Hl]) (Nat.le_refl _)) (by simp [Hw]) (by simp) (by simp [Hl]) hA (by simp; omega) (by decide)
  clear hA
  rw [List.nil_append] at o'
  have xK : Ext H.n H K := (Ext.refl (Nat.le_refl _) Hw).push.trans x'
  simp
  generalize hF1 : upd _ 14 _ = F1'
  refine bh6 [] ord hol l h8 H Hl (fun r => pcOut (fin [.t 8] r) = some (.bool true)) ord 0 l F1' K rfl (Nat.zero_le _) (.refl _) xK (by rw [← hF1]; simpa using o') (by rw [← hF1]; simp [F1]) (by rw [← hF1]; simp) fun ts F3 H3 hts x3 o13 hr3 => ?_
  have p9 : F3 9 = F 9 := by rw [hr3 9 (by decide), ← hF1]; simp
  have p2 : F3 2 = eL w 1 cInt near := by rw [hr3 2 (by decide), ← hF1]; simp [F2]
  have o9' : OwnR 2 H3 (F3 9) 41 4 (l.map eAdvert) := by rw [p9]; exact o9.ext x3
  have H3l : H3.lim = 0 := by rw [x3.lim]; exact Hl
  have x3n := x3.le
  clear hr3 hF1
  simp [t6k3]
  generalize hF4 : upd _ 17 _ = F4
  refine ch6 [] w near H3 H3l (fun r => pcOut (fin [.t 8] r) = some (.bool true)) 6 0 [] F4 H3 rfl (Nat.zero_le _) (.refl (Nat.le_refl _) x3.wf) (.nil (by rw [← hF4]; simp) rfl) (by rw [← hF4]; simp [p2]) (by rw [← hF4]; simp) fun own F5 H5 hown x5 o16 hr5 => ?_
  have q9 : F5 9 = F3 9 := by rw [hr5 9 (by decide), ← hF4]; simp
  have q13 : F5 13 = F3 13 := by rw [hr5 13 (by decide), ← hF4]; simp
  have o9h : OwnR 2 H5 (F5 9) 41 4 (l.map eAdvert) := by rw [q9]; exact o9'.ext x5
  have o13h : OwnR 2 H5 (F5 13) 41 4 (ts.map eAdvert) := by rw [q13]; exact (o13.ext x5).lower (by omega)
  have H5l : H5.lim = 0 := by rw [x5.lim]; exact H3l
  have H5w := x5.wf
  have x5n := x5.le
  clear hr5 hF4
  obtain ⟨nr, hN1, sN1, mN1, lN1⟩ := s7 true own (by omega)
  have hrs := ownI_resolve o16
  have hel : ∀ o : DO, elems (H5.push o) 1 (F5 16) = some (own.map cInt) := fun o => (o16.push (o := o)).elems
  simp [t6k2, e7, hrs, hN1, hel]
  generalize hA : appendD _ _ _ _ _ _ = A
  obtain ⟨v1, K1, rfl, o1, y1, _, _⟩ := append_frame (lo := H5.n) (xs := []) (.arr H5.n [] (some 0) rfl (by simp) (by simp [H5l]) (Nat.le_refl _)) (by simp [H5w]) (by simp) (by simp [H5l]) hA (by simp; omega) (by decide)
  clear hA
  rw [List.nil_append] at o1
  have z1 : Ext H5.n H5 K1 := (Ext.refl (Nat.le_refl _) H5w).push.trans y1
  have K1l : K1.lim = 0 := by rw [z1.lim]; exact H5l
  have K1w := z1.wf
  have K1n := z1.le
  have hel1 : elems K1 1 (F5 16) = some (own.map cInt) := (o16.ext z1).elems
  simp [hel1]
  generalize hA : appendD _ _ _ _ _ _ = A
  obtain ⟨v2, K2, rfl, o2, y2, _, _⟩ := append_frame (lo := H5.n) o1 K1w K1n (by omega) hA (by simp; omega) (by decide)
  clear hA
  have z2 : Ext H5.n H5 K2 := z1.trans y2
  have K2l : K2.lim = 0 := by rw [z2.lim]; exact H5l
  have K2w := z2.wf
  have K2n := z2.le
  have o2' : OwnR H5.n K2 v2 3 1 ((own ++ own).map cInt) := by simpa using o2
  have hrs2 := ownI_resolve o2'
  obtain ⟨nr2, hN2, sN2, mN2, lN2⟩ := s7 true (own ++ own) (by simp; omega)
  have hsame : nr2 = nr := strict_same sN2 sN1 fun x => by rw [mN1, mN2]; simp
  rw [hsame] at hN2
  have m1 : ¬ K2.n = K2.n + 1 := by omega
  have m2 : ¬ K2.n + 1 = K2.n := by omega
  have p9h : OwnR 2 K2 (F5 9) 41 4 (l.map eAdvert) := o9h.ext z2
  have p13h : OwnR 2 K2 (F5 13) 41 4 (ts.map eAdvert) := o13h.ext z2
  have hl9 : ∀ H, lenV H 1 (F5 9) = some (.int .i64 l.length) := by
    intro H
    cases p9h with
    | nil hv hx => have : l = [] := by simpa using hx
                   subst this; rw [hv]; rfl
    | arr id sp cap hv _ _ _ => rw [hv]; simp
  simp [e7, hrs2, hN2, K2l, K2w, m1, m2, hl9]
  generalize hF6 : upd _ 125 _ = F6
  refine d6 [] l ts h8 hts hl.ndl hl.par hl.prd nr nr (by omega) (by omega) K2 K2l K2.n (F5 9) (F5 13) p9h p13h (fun r => pcOut (fin [.t 8] r) = some (.bool true)) l.length 0 _ _ F6 _ (by omega) (Nat.zero_le _) (by simpa using LearnO.start nr) (by simpa using LearnO.start nr) ⟨?_, ?_, ?_, Nat.le_refl _, ?_, ?_⟩ (by rw [← hF6]; simp) (by rw [← hF6]; simp) (by rw [← hF6]; simp) (by rw [← hF6]; simp) (by rw [← hF6]; simp) (by rw [← hF6]; simp) fun b c F7 H7 hb hc hh7 a9 a18 a19 => ?_
  · simp [K2w, m1, m2]
  · simp [K2w, m1, m2]
  · simp [K2l]
  · simp [K2w]
  · intro i hi
    have j1 : ¬ i = K2.n := by omega
    have j2 : ¬ i = K2.n + 1 := by omega
    simp [K2w, j1, j2]
  have hbc : b = c := hb.same hc rfl hts
  subst hbc
  have hh7' := hh7
  obtain ⟨gb, gc, xl, xn, xw, xr⟩ := hh7
  simp [t6k1, a9, a18, a19, gb, xl, xw]
  generalize hF8 : upd _ 150 _ = F8
  exact f6 l nr (by omega) sN1 b h8 hb K2 K2.n (F5 9) p9h b.adverts.length 0 F8 H7 (by omega) (Nat.zero_le _) hh7' (by rw [← hF8]; simp [a9]) (by rw [← hF8]; simp [a18]) (by rw [← hF8]; simp [a19]) (by rw [← hF8]; simp [Tags.none]) (by rw [← hF8]; simp) (by rw [← hF8]; simp)
theorem s6 (ns ord near:List Int) (p:PK) (hol:ord.length≤9223372036854775807) (hp:p.has.length≤9223372036854775807):pcF D t6 [eL false 1 cInt ns,eL false 1 cInt ord,eL false 1 cInt near,ePK p]=some (.bool true) :=
 r6 false false false ns ord near p.has p.vals hol hp
end Go.Dm.Tc
