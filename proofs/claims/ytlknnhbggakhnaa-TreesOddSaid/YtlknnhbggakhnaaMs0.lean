/-
What functions of the library compute, part 1: searches, comparisons.
-/
import Derived.Test.YtlknnhbggakhnaaTcE
import Derived.Test.YtlknnhbggakhnaaMm4
set_option linter.all false
namespace Go.Dm.Tc
def idxOf:Option Nat→Int
 | some i=>i
 | none=>-1
theorem idxOf_ge {α:Type} (p:α→Bool) (xs:List α):decide (0≤idxOf (xs.findIdx? p))=xs.any p:=by
 cases h:xs.findIdx? p with
 | none =>
  rw [List.findIdx?_eq_none_iff]at h
  simp only [idxOf]
  have:xs.any p=false:=by rw [List.any_eq_false];exact fun x hx=>by simp [h x hx]
  rw [this];rfl
 | some i =>
  have:=List.findIdx?_eq_some_iff_getElem.1 h
  obtain ⟨hi,hp,_⟩:=this
  have:xs.any p=true:=List.any_eq_true.2 ⟨_,List.getElem_mem hi,hp⟩
  rw [this]
  simp [idxOf]
theorem l20 (t:Bool) (xs:List Int) (v:Int) (hl:xs.length≤1000000) :
  ∀(rest:List Int) (i:Nat) (f:FEnv) (h:Heap),xs.drop i=rest→f 0=eL t 1 cInt xs→f 1=.int .i64 v→f 7=.int .i64 xs.length→f 8=.int .i64 i →
  pcOut (fin [.t 4] (run D 19 [.block 0,.seq t20k0] (.loop t20l0) f h))=some (.int .i64 (idxOf ((rest.findIdx? (v == ·)).map (·+i)))):=by
 intro rest
 induction rest with
 | nil =>
  intro i f h hd h0 h1 h7 h8
  have hi:=drop_nil hd
  have:¬(i<xs.length):=by omega
  rw [run_loop_of t20l0.eq_1]
  simp [t20k0,h7,h8,this,idxOf]
 | cons e rest ih =>
  intro i f h hd h0 h1 h7 h8
  obtain ⟨hi,he,hd'⟩:=drop_at hd
  rw [run_loop_of t20l0.eq_1]
  by_cases hp:v=e
  ·simp [h0,h1,h7,h8,hi,he,cInt,hp,idxOf,List.findIdx?_cons]
  ·simp [h0,h1,h7,h8,hi,he,cInt,hp]
   rw [wrap64 (by omega) (by omega)]
   refine (ih (i+1) _ h hd' ?_ ?_ ?_ ?_).trans ?_<;>simp [h0,h1,h7,List.findIdx?_cons,hp,cInt]
   congr 2
   funext q
   simp
   omega
theorem s20 (t:Bool) (xs:List Int) (v:Int) (hl:xs.length≤1000000) :
  pcF D t20 [eL t 1 cInt xs,.int .i64 v]=some (.int .i64 (idxOf (xs.findIdx? (v == ·)))):=by
 unfold pcF
 rw [goRun_eq _ _ _ _ (by simp [t20])]
 simp [t20]
 refine (l20 t xs v hl xs 0 _ _ rfl ?_ ?_ ?_ ?_).trans ?_<;>simp
theorem s18 (t:Bool) (xs:List Int) (v:Int) (hl:xs.length≤1000000) :
  pcF D t18 [eL t 1 cInt xs,.int .i64 v]=some (.bool (xs.contains v)):=by
 unfold pcF
 rw [goRun_eq _ _ _ _ (by simp [t18])]
 simp [t18,e20,s20 t xs v hl]
 have:=idxOf_ge (v == ·) xs
 rw [←decide_eq_true_iff (p:=0≤_),this,List.any_eq_true]
 simp
end Go.Dm.Tc
/-
What functions of the library compute,part 2: comparisons by a function,rows that rise,searches by halves.
-/
namespace Go.Dm.Tc
def risesB {α:Type} (p:α→α→Bool):List α→Bool
 | a::b::r=>p a b && risesB p (b::r)
 | _=>true
end Go.Dm.Tc
/-
What functions of the library compute,part 3: the search by halves.
-/
namespace Go.Dm.Tc
def lowIdx {α:Type} (cm:α→Int) (xs:List α):Nat:=xs.findIdx fun x=>!decide (cm x<0)
theorem lowIdx_le {α:Type} (cm:α→Int) (xs:List α):lowIdx cm xs≤xs.length:=List.findIdx_le_length
end Go.Dm.Tc
/-
What functions of the library compute,part 4: an element put into a row of the call's own.
-/
namespace Go.Dm.Tc
end Go.Dm.Tc
/-
What functions of the statements' books compute: are two rows the same?
-/
namespace Go.Dm.Tc
end Go.Dm.Tc
/-
What functions of the library compute,part 6: an element taken out of a row of the call's own;elements taken out by a function.
-/
namespace Go.Dm.Tc
def lenOf:DV→Option Nat
 | .nsl=>some 0
 | .sl _ _ _ len=>some len
 | .isl _ _ xs=>some xs.length
 | _=>none
def clearV (h:Heap) (sz:Nat) (z x:DV):Option (DV×Heap) :=
 match x with
 | .nsl=>some (.tup [],h)
 | .isl _ _ []=>some (.tup [],h)
 | .sl id sz' off len=>if len=0 then some (.tup [],h) else match copyD h sz (.sl id sz' off len) (List.replicate len z) with|some (_,h')=>some (.tup [],h')|none=>none
 | _=>none
theorem on_clear (c:Nat→List DV→Heap→Option (DV×Heap)) (h:Heap) (env:Env) (sz:Nat) (z:DV) (x:Opd):oneOp c (.clear sz z x) env h=clearV h sz z (x.eval env):=by
 simp only [oneOp,stepOp,clearV]
 cases x.eval env<;>rfl
theorem clearV_sl {h:Heap} {id ety sz off len:Nat} {xs:List DV} {cap:Option Nat} {z:DV} (hg:h.get id=some (.arr ety sz xs cap)) (hl:off+len≤xs.length) (hlim:h.lim≤id) (h0:len≠0) :
  clearV h sz z (.sl id sz off len)=some (.tup [],h.set id (.arr ety sz (splice xs (List.replicate len z) off) cap)):=by
 simp [clearV,h0,hg,hl,hlim]
end Go.Dm.Tc
/-
What functions of the library compute,part 7: elements taken out by a function.
-/
namespace Go.Dm.Tc
end Go.Dm.Tc
/-
What functions of the program compute,part 1: how advertisements are ordered and found.
-/
namespace Go.Dm.Tc
theorem s43 (a:Int):pcF D t43 [.int .i64 a]=some (.bool false):=by
 unfold pcF
 rw [goRun_eq _ _ _ _ (by simp [t43])]
 simp [t43]
def cmpI (a b:Int):Int:=if a<b then -1 else if b<a then 1 else 0
def orI (a b:Int):Int:=if a=0 then b else a
def cmpID (a b:ID):Int:=orI (cmpI a.client b.client) (cmpI a.seq b.seq)
def ltID (a b:ID):Bool:=decide (cmpID a b<0)
def Rising (l:List ID):Prop:=l.Pairwise fun a b=>cmpID a b<0
theorem cmpID_lt {a b:ID}:cmpID a b<0↔a.client<b.client∨a.client=b.client∧a.seq<b.seq:=by
 unfold cmpID orI cmpI
 split<;>split<;>(try split)<;>(try split)<;>omega
theorem cmpID_eq {a b:ID}:cmpID a b=0↔a=b:=by
 cases a;cases b
 simp only [ID.mk.injEq]
 unfold cmpID orI cmpI
 simp only
 split<;>split<;>(try split)<;>(try split)<;>omega
end Go.Dm.Tc
/-
What functions of the program compute,part 2: a broker with rows of its own;an advertisement learned.
-/
namespace Go.Dm.Tc
end Go.Dm.Tc
/-
What functions of the program compute,part 3: an advertisement learned,found.
-/
namespace Go.Dm.Tc
section
variable {α:Type} (key:α→ID)
end
def advOf (b:Broker) (x:ID):Option Advert:=b.adverts.find? fun a=>a.id=x
def advZero:Advert:=⟨⟨0,0⟩,[],0⟩
structure Sized (b:Broker):Prop where
 near:b.near.length≤100000
 adv:b.adverts.length≤100000
 seen:b.seen.length≤100000
 ent:b.entries.length≤100000
 own:b.owns.length≤100000
end Go.Dm.Tc
/-
What functions of the program compute,part 4: are two brokers the same?
-/
namespace Go.Dm.Tc
structure SizedP (b:Broker):Prop where
 adv:∀x∈b.adverts,x.pred.length≤1000000
 ent:∀x∈b.entries,x.pred.length≤1000000
 own:∀x∈b.owns,x.pred.length≤1000000
end Go.Dm.Tc
/-
What functions of the program compute,part 5: the statements' own comparisons of brokers.
-/
namespace Go.Dm.Tc
end Go.Dm.Tc
/-
What functions of the statements' own packages compute: numbers brought into bounds;predicates made of numbers;a broker copied.
-/
namespace Go.Dm.Tc
def within (n lo hi:Int):Int:=if n.tmod (hi-lo+1)<0 then lo+(n.tmod (hi-lo+1)+hi-lo+1) else lo+n.tmod (hi-lo+1)
theorem s6 (n lo hi:Int) (h:lo≤hi) (hlo:-1000000000≤lo) (hhi:hi≤1000000000):pcF D t6 [.int .i64 n,.int .i64 lo,.int .i64 hi]=some (.int .i64 (within n lo hi)):=by
 unfold pcF
 rw [goRun_eq _ _ _ _ (by simp [t6])]
 have h1:0<hi-lo+1:=by omega
 have h2:=Int.tmod_lt_of_pos n h1
 have h3:-(hi-lo+1)<n.tmod (hi-lo+1):=by
  have:=Int.lt_tmod_of_pos n h1
  omega
 have w1:IntKind.i64.wrap (hi-lo)=hi-lo:=wrap64 (by omega) (by omega)
 have w2:IntKind.i64.wrap (hi-lo+1)=hi-lo+1:=wrap64 (by omega) (by omega)
 have hne:hi-lo+1≠0:=by omega
 have hr:arithD .rem (.int .i64 n) (.int .i64 (hi-lo+1))=some (.int .i64 (n.tmod (hi-lo+1))):=by simp [arithD,hne]
 by_cases hneg:n.tmod (hi-lo+1)<0
 ·have w3:IntKind.i64.wrap (n.tmod (hi-lo+1)+hi)=n.tmod (hi-lo+1)+hi:=wrap64 (by omega) (by omega)
  have w4:IntKind.i64.wrap (n.tmod (hi-lo+1)+hi-lo)=n.tmod (hi-lo+1)+hi-lo:=wrap64 (by omega) (by omega)
  have w5:IntKind.i64.wrap (n.tmod (hi-lo+1)+hi-lo+1)=n.tmod (hi-lo+1)+hi-lo+1:=wrap64 (by omega) (by omega)
  have w6:IntKind.i64.wrap (lo+(n.tmod (hi-lo+1)+hi-lo+1))=lo+(n.tmod (hi-lo+1)+hi-lo+1):=wrap64 (by omega) (by omega)
  simp [t6,w1,w2,hr,hneg,w3,w4,w5,w6,within]
 ·have w6:IntKind.i64.wrap (lo+n.tmod (hi-lo+1))=lo+n.tmod (hi-lo+1):=wrap64 (by omega) (by omega)
  simp [t6,w1,w2,hr,hneg,w6,within]
def namesL:List (List UInt8):=[[97],[98],[99],[100],[101],[102],[103]]
def textsL:List (List UInt8):=[[],[120],[120,121],[120,121,122],[120,122],[121],[121,121]]
def pickI (l:List Int) (i:Nat):Int:=if l.length=0 then 0 else l.getD (i % l.length) 0
def mkCons (name:List UInt8) (n:Int):Cons :=
 if within n 0 3=0∨within n 0 3=1 then ⟨name,1,within (IntKind.i64.wrap (n.tdiv 4)) 0 9,within (IntKind.i64.wrap (n.tdiv 4)) 0 9+within (IntKind.i64.wrap (n.tdiv 40)) 0 9,[]⟩
 else ⟨name,if within n 0 3=2 then 2 else 3,0,0,textsL.getD (within (IntKind.i64.wrap (n.tdiv 4)) 0 6).toNat []⟩
end Go.Dm.Tc
/-
What functions of the statements' own packages compute: predicates made of numbers.
-/
namespace Go.Dm.Tc
def and1 (n:Int):Int:=IntKind.i64.wrap ((BitVec.ofInt 64 n &&& BitVec.ofInt 64 1).toNat:Int)
def odd1 (n:Int):Bool:=decide (and1 n=1)
def mkPredA (has vals:List Int):List (List UInt8)→Nat→Pred→Pred
 | [],_,acc=>acc
 | nm::r,i,acc=>if i<has.length∧odd1 (has.getD i 0)=true∧acc.length<5 then mkPredA has vals r (i+1) (acc++[mkCons nm (pickI vals i)]) else mkPredA has vals r (i+1) acc
def mkPred (has vals:List Int):Pred:=mkPredA has vals namesL 0 []
end Go.Dm.Tc
/-
What functions of the statements' own packages compute: a broker copied;the reference's orders and searches.
-/
namespace Go.Dm.Tc
end Go.Dm.Tc
/-
What the reference's functions compute,part 1: orders,searches,an advertisement learned.
-/
namespace Go.Dm.Tc
end Go.Dm.Tc
/-
What the reference's functions compute,part 2: an advertisement learned.
-/
namespace Go.Dm.Tc
end Go.Dm.Tc
/-
What functions of the program compute,part 9: what may be a name,a constraint,a predicate.
-/
namespace Go.Dm.Tc
def letters (s:List UInt8):Bool:=s.all fun b=>decide (97≤b.toNat) && decide (b.toNat≤122)
def nameOk (s:List UInt8):Bool:=letters s && !decide (s=[]) && decide (s.length≤12)
def rightOne (c : Cons) : Bool :=
  nameOk c.name &&
    (if c.kind = 1 then decide (c.lo ≤ c.hi) && decide (c.text = [])
     else if c.kind = 3 then !decide (c.text.length = 12) && (decide (c.lo = 0) && decide (c.hi = 0) && decide (c.text.length ≤ 12))
     else if c.kind = 2 then decide (c.lo = 0) && decide (c.hi = 0) && decide (c.text.length ≤ 12)
     else false)
def rightA:Option (List UInt8)→Pred→Bool
 | _,[]=>true
 | prev,c::r=>rightOne c && (match prev with|none=>true|some n=>Go.Op.bytesLess n c.name) && rightA (some c.name) r
def rightP (p:Pred):Bool:=rightA none p && decide (p.length≤5)
def NamesP (p:Pred):Prop:=p.length≤1000000∧∀c∈p,c.name.length≤1000000
end Go.Dm.Tc
/-
What functions of the program compute,part 10: is a broker right?
-/
namespace Go.Dm.Tc
def linkB (b:Broker) (n:Int):Bool:=decide (n=-1) || b.near.contains n
def cmpE (t1 s1 t2 s2:ID):Int:=orI (cmpID t1 t2) (cmpID s1 s2)
def ltE (x y:Entry):Bool:=decide (cmpE x.tree x.sub y.tree y.sub<0)
theorem of_rising {α:Type} {key:α→ID}:∀{l:List α},Rising (l.map key)→risesB (fun x y=>ltID (key x) (key y)) l=true
 | [],_=>rfl
 | [a],_=>rfl
 | a::b::r,h=>by
  unfold Rising at h
  rw [List.map_cons,List.pairwise_cons]at h
  simp only [risesB,Bool.and_eq_true]
  refine ⟨?_,of_rising (l:=b::r) h.2⟩
  have:=h.1 (key b) (by simp)
  simpa [ltID] using this
def rightEnt (b:Broker) (e:Entry):Bool :=
 match b.adverts.find? (fun a=>a.id=e.tree) with
 | none=>false
 | some a=>linkB b e.frm && (!decide (e.frm=a.parent) || decide (a.parent=-1)) && !(e.up && decide (a.parent=-1)) && rightP e.pred
end Go.Dm.Tc
/-
What functions of the program compute,part 11: is a broker right? All of it.
-/
namespace Go.Dm.Tc
structure SizedN (b:Broker):Prop where
 adv:∀x∈b.adverts,NamesP x.pred
 ent:∀x∈b.entries,NamesP x.pred
 own:∀x∈b.owns,NamesP x.pred
def rightAdv (b:Broker) (a:Advert):Bool:=decide (a.id∈b.seen) && linkB b a.parent && rightP a.pred
def bCells (t:Tags) (b:Broker):List DV:=[.int .i64 b.me,eL t.near 1 cInt b.near,eL t.adverts 4 eAdvert b.adverts,eL t.seen 2 eID b.seen,eL t.entries 7 eEntry b.entries,eL t.owns 3 eOwn b.owns]
def rightRows (b:Broker):Bool :=
 risesB (fun x y=>decide (x<y)) b.near && risesB (fun x y=>ltID x y) b.seen && risesB (fun x y:Advert=>ltID x.id y.id) b.adverts && risesB (fun x y:OwnS=>ltID x.id y.id) b.owns && risesB ltE b.entries
def rightB (b:Broker):Bool :=
 rightRows b && !(b.adverts.any fun a=>!rightAdv b a) && !(b.entries.any fun e=>!rightEnt b e) && !(b.owns.any fun o=>!rightP o.pred)
end Go.Dm.Tc
/-
What functions of the program compute,part 12: an advertisement forgotten.
-/
namespace Go.Dm.Tc
end Go.Dm.Tc
/-
What the reference's functions compute,part 3: an advertisement forgotten.
-/
namespace Go.Dm.Tc
end Go.Dm.Tc
/-
Calls that let go of rows,brought into form;closed runs.
-/
namespace Go.Dm.Tc
def consH:Option (DV×Heap)→(Heap→Option (List DV×Heap))→Option (List DV×Heap)
 | some (v,h),k=>match k h with|some (r,h')=>some (v::r,h')|none=>none
 | none,_=>none
def consL (v:DV):Option (List DV×Heap)→Option (List DV×Heap)
 | some (r,h)=>some (v::r,h)
 | none=>none
def aggH:Option (List DV×Heap)→Option (DV×Heap)
 | some (r,h)=>some (.agg r,h)
 | none=>none
theorem consL_some (v:DV) (r:List DV) (h:Heap):consL v (some (r,h))=some (v::r,h):=_root_.id rfl
theorem aggH_some (r:List DV) (h:Heap):aggH (some (r,h))=some (.agg r,h):=_root_.id rfl
theorem consH_some (v:DV) (h:Heap) (k:Heap→Option (List DV×Heap)):consH (some (v,h)) k=consL v (k h):=by
 simp only [consH];cases k h<;>rfl
theorem mapH_nil (f:Heap→DV→Option (DV×Heap)) (h:Heap):mapH f h []=some ([],h):=_root_.id rfl
theorem mapH_cons (f:Heap→DV→Option (DV×Heap)) (h:Heap) (v:DV) (r:List DV):mapH f h (v::r)=consH (f h v) (fun h1=>mapH f h1 r):=by
 simp only [mapH,consH]
 cases f h v with
 | none=>rfl
 | some p=>rfl
theorem frA_agg (h:Heap) (cs:List DV):freezeA h (.agg cs)=aggH (mapH freeze h cs):=by
 simp only [freezeA];cases mapH freeze h cs<;>rfl
theorem frA_int (h:Heap) (k:IntKind) (n:Int):freezeA h (.int k n)=some (.int k n,h):=_root_.id rfl
theorem frA_eL {α:Type} (h:Heap) (t:Bool) (sz:Nat) (e:α→DV) (xs:List α):freezeA h (eL t sz e xs)=some (eL t sz e xs,h):=by cases xs<;>rfl
theorem frA_pred (h:Heap) (p:Pred):freezeA h (ePred p)=some (ePred p,h):=frA_eL ..
theorem frA_str (h:Heap) (s:List UInt8):freezeA h (.str s)=some (.str s,h):=_root_.id rfl
theorem fr_int (h:Heap) (k:IntKind) (n:Int):freeze h (.int k n)=some (.int k n,h):=_root_.id rfl
theorem fr_bool (h:Heap) (b:Bool):freeze h (.bool b)=some (.bool b,h):=_root_.id rfl
theorem fr_nsl (h:Heap):freeze h .nsl=some (.nsl,h):=_root_.id rfl
theorem fr_eL {α:Type} (h:Heap) (t:Bool) (sz:Nat) (e:α→DV) (xs:List α):freeze h (eL t sz e xs)=some (eL t sz e xs,h):=by cases xs<;>rfl
theorem fr_pred (h:Heap) (p:Pred):freeze h (ePred p)=some (ePred p,h):=fr_eL ..
theorem fr_isl (h:Heap) (t:Bool) (sz:Nat) (xs:List DV):freeze h (.isl t sz xs)=some (.isl t sz xs,h):=_root_.id rfl
attribute [simp] consL_some aggH_some consH_some mapH_nil mapH_cons frA_agg frA_int frA_eL frA_pred frA_str fr_int fr_bool fr_nsl fr_eL fr_pred fr_isl callZ_some
theorem nn1 (n:Nat):(n=n+1)=False:=eq_false (by omega)
theorem mm1 (n:Nat):(n+1=n)=False:=eq_false (by omega)
theorem nn2 (n:Nat):(n=n+1+1)=False:=eq_false (by omega)
theorem mm2 (n:Nat):(n+1+1=n)=False:=eq_false (by omega)
theorem nn3 (n:Nat):(n=n+1+1+1)=False:=eq_false (by omega)
theorem mm3 (n:Nat):(n+1+1+1=n)=False:=eq_false (by omega)
theorem nn4 (n:Nat):(n=n+1+1+1+1)=False:=eq_false (by omega)
theorem mm4 (n:Nat):(n+1+1+1+1=n)=False:=eq_false (by omega)
theorem nn5 (n:Nat):(n=n+1+1+1+1+1)=False:=eq_false (by omega)
theorem mm5 (n:Nat):(n+1+1+1+1+1=n)=False:=eq_false (by omega)
theorem nn6 (n:Nat):(n=n+1+1+1+1+1+1)=False:=eq_false (by omega)
theorem mm6 (n:Nat):(n+1+1+1+1+1+1=n)=False:=eq_false (by omega)
theorem nn7 (n:Nat):(n=n+1+1+1+1+1+1+1)=False:=eq_false (by omega)
theorem mm7 (n:Nat):(n+1+1+1+1+1+1+1=n)=False:=eq_false (by omega)
theorem nn8 (n:Nat):(n=n+1+1+1+1+1+1+1+1)=False:=eq_false (by omega)
theorem mm8 (n:Nat):(n+1+1+1+1+1+1+1+1=n)=False:=eq_false (by omega)
theorem nn9 (n:Nat):(n=n+1+1+1+1+1+1+1+1+1)=False:=eq_false (by omega)
theorem mm9 (n:Nat):(n+1+1+1+1+1+1+1+1+1=n)=False:=eq_false (by omega)
theorem nn10 (n:Nat):(n=n+1+1+1+1+1+1+1+1+1+1)=False:=eq_false (by omega)
theorem mm10 (n:Nat):(n+1+1+1+1+1+1+1+1+1+1=n)=False:=eq_false (by omega)
theorem nn11 (n:Nat):(n=n+1+1+1+1+1+1+1+1+1+1+1)=False:=eq_false (by omega)
theorem mm11 (n:Nat):(n+1+1+1+1+1+1+1+1+1+1+1=n)=False:=eq_false (by omega)
theorem nn12 (n:Nat):(n=n+1+1+1+1+1+1+1+1+1+1+1+1)=False:=eq_false (by omega)
theorem mm12 (n:Nat):(n+1+1+1+1+1+1+1+1+1+1+1+1=n)=False:=eq_false (by omega)
attribute [simp] nn1 mm1 nn2 mm2 nn3 mm3 nn4 mm4 nn5 mm5 nn6 mm6 nn7 mm7 nn8 mm8 nn9 mm9 nn10 mm10 nn11 mm11 nn12 mm12
theorem pc_run {k n:Nat} {df:DFunc} {args ds:List DV} {d:DV} (he:∀args h,fc D k args h=callP D df h (args.mapM (resolve true h deepFuel))) (hd:args.mapM (resolve true heap0 deepFuel)=some ds) (hr:callD D n k args heap0=some (d,heap0)):pcF D df ds=some d:=by
 have h1:fc D k args heap0=some (d,heap0):=fc_some.2 ⟨n,hr⟩
 rw [he,hd,callP_some]at h1
 cases h2:pcF D df ds with
 | none=>rw [h2]at h1;cases h1
 | some x=>rw [h2,callR_some]at h1;injection h1 with h1;injection h1 with h1;rw [h1]
end Go.Dm.Tc
/-
Plain laws,part 1: predicates made of numbers are right;rows that rise stay so.
-/
namespace Go.Dm.Tc
structure PredOk (p:Pred):Prop where
 right:rightP p=true
 names:NamesP p
 len:p.length≤5
end Go.Dm.Tc
/-
Plain laws,part 2: a broker that was told of advertisements alone;sets of IDs as maps.
-/
namespace Go.Dm.Tc
structure InvB (m0:Int) (nr:List Int) (b:Broker) (n:Nat):Prop where
 me:b.me=m0
 near:b.near=nr
 ent:b.entries=[]
 own:b.owns=[]
 ra:Rising (b.adverts.map (·.id))
 rs:Rising b.seen
 la:b.adverts.length≤n
 ls:b.seen.length≤n
 sub:∀a∈b.adverts,a.id∈b.seen
 par:∀a∈b.adverts,a.parent=-1∨a.parent∈nr
 prd:∀a∈b.adverts,PredOk a.pred
section
variable {me:Int} {near:List Int} {b:Broker} {n:Nat}
theorem InvB.start (me:Int) (near:List Int):InvB me near ⟨me,near,[],[],[],[]⟩ 0:=⟨rfl,rfl,rfl,rfl,List.Pairwise.nil,List.Pairwise.nil,Nat.le_refl _,Nat.le_refl _,fun a h=>(by cases h),fun a h=>(by cases h),fun a h=>(by cases h)⟩
theorem InvB.mono {m:Nat} (h:InvB me near b n) (hm:n≤m):InvB me near b m:={h with la:=Nat.le_trans h.la hm,ls:=Nat.le_trans h.ls hm}
theorem InvB.right (h:InvB me near b n) (hn:risesB (fun x y=>decide (x<y)) near=true):rightB b=true:=by
 unfold rightB rightRows
 rw [h.near,h.ent,h.own,of_rising (key:=fun a:Advert=>a.id) h.ra,show risesB (fun x y=>ltID x y) b.seen=true from of_rising (key:=fun a:ID=>a) (by simpa using h.rs),hn]
 have:(b.adverts.any fun a=>!rightAdv b a)=false:=by
  rw [List.any_eq_false]
  intro a ha
  have h1:=h.sub a ha
  have h2:=h.par a ha
  have h3:=(h.prd a ha).right
  have h4:linkB b a.parent=true:=by
   unfold linkB
   rw [h.near]
   rcases h2 with e|e
   ·simp [e]
   ·simp [e]
  simp [rightAdv,h1,h3,h4]
 rw [this]
 rfl
end
def eSet (ks:List ID):List (DV×DV):=ks.map fun x=>(.agg [.int .i64 x.client,.int .i64 x.seq],.bool true)
end Go.Dm.Tc
/-
What functions of the program compute,part 13: is a constraint wider than another one?
-/
namespace Go.Dm.Tc
def beginsS (s p:List UInt8):Bool:=decide (p.length≤s.length) && (s.take p.length == p)
def holdsT (c:Cons) (s:List UInt8):Bool:=if c.kind=2 then s == c.text else if c.kind=3 then beginsS s c.text else false
def widerC (c x:Cons):Bool :=
 if x.kind=1 then decide (c.kind=1) && decide (c.lo≤x.lo) && decide (x.hi≤c.hi)
 else if x.kind=3 then decide (c.kind=3) && beginsS x.text c.text
 else if x.kind=2 then holdsT c x.text
 else false
end Go.Dm.Tc
/-
What functions of the program compute,part 14: does a predicate cover another one?
-/
namespace Go.Dm.Tc
def Unlike (p:Pred):Prop:=p.Pairwise fun a b=>a.name≠b.name
def coversP (a b:Pred):Bool:=a.all fun c=>match b.find? (fun x=>decide (x.name=c.name)) with
 | some x=>widerC c x
 | none=>false
end Go.Dm.Tc
/-
What functions of the program compute,part 15: an entry's place;an entry found;a tree's entries.
-/
namespace Go.Dm.Tc
def sgnE (tree sub:ID) (e:Entry):Int:=if e.tree=tree∧e.sub=sub then 0 else if ltID e.tree tree=true∨(e.tree=tree∧ltID e.sub sub=true) then -1 else 1
theorem ltID_iff {a b:ID}:ltID a b=true↔a.client<b.client∨a.client=b.client∧a.seq<b.seq:=by
 unfold ltID;rw [decide_eq_true_iff,cmpID_lt]
theorem ID.ext' {a b:ID}:a=b↔a.client=b.client∧a.seq=b.seq:=by cases a;cases b;simp
theorem sgnE_lt {tree sub:ID} {e:Entry}:sgnE tree sub e<0↔ltID e.tree tree=true∨(e.tree=tree∧ltID e.sub sub=true):=by
 unfold sgnE
 split
 ·rename_i h
  rw [h.1,h.2,ltID_iff,ltID_iff]
  constructor
  ·intro q;omega
  ·rintro (q|⟨_,q⟩)<;>omega
 ·split
  ·rename_i h;exact ⟨fun _=>h,fun _=>by decide⟩
  ·rename_i h;exact ⟨fun q=>by omega,fun q=>absurd q h⟩
theorem sgnE_eq {tree sub:ID} {e:Entry}:sgnE tree sub e=0↔e.tree=tree∧e.sub=sub:=by
 unfold sgnE
 split
 ·rename_i h;exact ⟨fun _=>h,fun _=>rfl⟩
 ·rename_i h
  split<;>exact ⟨fun q=>by omega,fun q=>absurd q h⟩
theorem ltE_sgn (a b:Entry):ltE a b=true↔sgnE b.tree b.sub a<0:=by
 rw [sgnE_lt,ltID_iff,ltID_iff]
 unfold ltE cmpE orI
 rw [decide_eq_true_iff]
 split
 ·rename_i h
  rw [cmpID_eq]at h
  rw [cmpID_lt,h]
  constructor
  ·intro q;exact .inr ⟨rfl,q⟩
  ·rintro (q|⟨_,q⟩)
   ·omega
   ·exact q
 ·rename_i h
  rw [cmpID_eq]at h
  rw [cmpID_lt]
  constructor
  ·intro q;exact .inl q
  ·rintro (q|⟨q,_⟩)
   ·exact q
   ·exact absurd q h
def RisingE (l:List Entry):Prop:=l.Pairwise fun a b=>sgnE b.tree b.sub a<0
theorem sgnE_trans {t s:ID} {a b:Entry} (h1:sgnE b.tree b.sub a<0) (h2:sgnE t s b≤0):sgnE t s a<0:=by
 rw [sgnE_lt,ltID_iff,ltID_iff]at *
 by_cases h0:sgnE t s b=0
 ·rw [sgnE_eq]at h0
  rw [h0.1,h0.2]at h1
  exact h1
 ·have h3:sgnE t s b<0:=by omega
  rw [sgnE_lt,ltID_iff,ltID_iff]at h3
  rw [ID.ext']at *
  omega
theorem monoE {l:List Entry} (h:RisingE l) (t s:ID):∀i j (hi:i<l.length) (hj:j<l.length),i≤j→sgnE t s l[j]<0→sgnE t s l[i]<0:=by
 intro i j hi hj hij hlt
 rcases Nat.lt_or_eq_of_le hij with hl|rfl
 ·exact sgnE_trans (List.pairwise_iff_getElem.1 h i j hi hj hl) (by omega)
 ·exact hlt
theorem of_risesE:∀{l:List Entry},RisingE l→risesB ltE l=true
 | [],_=>rfl
 | [a],_=>rfl
 | a::b::r,h=>by
  unfold RisingE at h
  rw [List.pairwise_cons]at h
  simp only [risesB,Bool.and_eq_true]
  exact ⟨(ltE_sgn a b).2 (h.1 b (List.mem_cons_self ..)),of_risesE (l:=b::r) h.2⟩
def isE (tree sub:ID) (e:Entry):Bool:=decide (e.tree=tree∧e.sub=sub)
end Go.Dm.Tc
/-
What functions of the program compute,part 16: an entry found;a tree's entries;is a predicate covered?
-/
namespace Go.Dm.Tc
def ofT (tree:ID) (l:List Entry):List Entry:=l.filter fun e=>decide (e.tree=tree)
def coveredB (l:List Entry) (tree:ID) (p:Pred):Bool:=(ofT tree l).any fun e=>e.up && coversP e.pred p
end Go.Dm.Tc
/-
What functions of the program compute,part 17: is a broker tight?
-/
namespace Go.Dm.Tc
def parentOf (b:Broker) (x:ID):Int:=((b.adverts.find? fun a=>a.id=x).getD advZero).parent
def tightE (b:Broker) (e:Entry):Bool:=e.up || decide (parentOf b e.tree=-1) || coveredB b.entries e.tree e.pred
def tightB (b:Broker):Bool:=b.entries.all (tightE b)
structure AskedP (b:Broker):Prop where
 unl:∀e∈b.entries,Unlike e.pred
 len:∀e∈b.entries,e.pred.length≤1000000
end Go.Dm.Tc
/-
What the reference's functions compute,part 4: an entry's place;is a predicate covered?
-/
namespace Go.Dm.Tc
end Go.Dm.Tc
/-
What the reference's functions compute,part 5: does a predicate cover another one? is it covered?
-/
namespace Go.Dm.Tc
end Go.Dm.Tc
/-
Plain laws,part 3: names of right predicates are unlike;the two coverings are alike. The reference's Covered.
-/
namespace Go.Dm.Tc
theorem rightA_each:∀{p:Pred} {prev:Option (List UInt8)},rightA prev p=true→∀c∈p,rightOne c=true
 | [],_,_,_,h=>by cases h
 | c::r,prev,h,d,hd=>by
  simp only [rightA,Bool.and_eq_true]at h
  rcases List.mem_cons.1 hd with rfl|hd
  ·exact h.1.1
  ·exact rightA_each h.2 d hd
theorem PredOk.each {p:Pred} (h:PredOk p):∀c∈p,rightOne c=true:=by
 have:=h.right
 unfold rightP at this
 rw [Bool.and_eq_true]at this
 exact rightA_each this.1
theorem PredOk.nil:PredOk []:=⟨rfl,⟨by decide,fun c h=>by cases h⟩,by decide⟩
end Go.Dm.Tc
/-
What functions of the program compute,part 18: an entry added.
-/
namespace Go.Dm.Tc
def insE (e:Entry) (l:List Entry):List Entry:=l.take (lowIdx (sgnE e.tree e.sub) l)++e::l.drop (lowIdx (sgnE e.tree e.sub) l)
def mayAdd (b:Broker) (e:Entry):Bool :=
 match b.adverts.find? (fun a=>a.id=e.tree) with
 | none=>false
 | some a=>!(b.entries.any (isE e.tree e.sub)) && !(decide (e.frm=a.parent) && !decide (a.parent=-1))
def upOf (b:Broker) (e:Entry):Bool:=!decide (parentOf b e.tree=-1) && !coveredB b.entries e.tree e.pred
def addB (b:Broker) (e:Entry):Broker×Bool :=
 if mayAdd b e=true then ({b with entries:=insE {e with up:=upOf b e} b.entries},upOf b e) else (b,false)
end Go.Dm.Tc
/-
What the reference's functions compute,part 6: an entry added.
-/
namespace Go.Dm.Tc
end Go.Dm.Tc
/-
What the reference's functions compute,part 7: an entry added,all of it.
-/
namespace Go.Dm.Tc
end Go.Dm.Tc
/-
Two rows of one element type side by side: what is put behind one leaves the other one alone.
-/
namespace Go.Dm.Tc
def NotAt (v:DV) (k:Nat):Prop:=∀sz off len,v≠.sl k sz off len
theorem append_frame {lo:Nat} {h:Heap} {v:DV} {ety sz bytes:Nat} {xs ys:List DV} {A:Option (DV×Heap)} (w:OwnR lo h v ety sz xs) (wf:WF h) (hlo:lo≤h.n) (hlim:h.lim≤h.n) (hA:appendD h ety sz bytes v ys=A)
  (hb:(xs.length+ys.length)*bytes≤140737488355328) (hb1:1≤bytes) :
  ∃ v' h',A=some (v',h')∧OwnR lo h' v' ety sz (xs++ys)∧Ext lo h h'∧(∀k,k<h.n→NotAt v k→h'.get k=h.get k)∧(∀k,k<h.n→NotAt v k→NotAt v' k):=by
 have hm:xs.length+ys.length≤140737488355328:=Nat.le_trans (Nat.le_mul_of_pos_right _ hb1) hb
 by_cases hy:ys=[]
 ·subst hy
  refine ⟨v,h,?_,by simpa using w,.refl hlo wf,fun _ _ _=>rfl,fun _ _ q=>q⟩
  rw [←hA]
  cases w with
  | nil hv hx=>subst hv;rfl
  | arr id sp cap hv hg _ _=>subst hv;rfl
 ·have hye:ys.isEmpty=false:=by cases ys<;>simp_all
  have hyl:0<ys.length:=List.length_pos_iff.2 hy
  cases w with
  | nil hv hx =>
   subst hv;subst hx
   simp only [List.length_nil,Nat.zero_add]at hb hm
   refine ⟨.sl h.n sz 0 ys.length,h.push (.arr ety sz ys none),?_,.arr h.n [] none rfl (by simp [get_push]) (by exact hlim) hlo,(Ext.refl hlo wf).push,fun k hk _=>by rw [get_push,if_neg (by omega)],fun k hk _ sz' off' len' e=>by injection e;omega⟩
   rw [←hA]
   simp only [appendD,hye]
   rw [if_neg (by simp),if_pos ⟨hb,by omega⟩]
  | arr id sp cap hv hg hl hi =>
   subst hv
   have hlt:=get_some_lt hg
   have hne:∀k,NotAt (.sl id sz 0 xs.length) k→k≠id:=fun k q e=>by subst e;exact q _ _ _ rfl
   by_cases hin:xs.length+ys.length≤(xs++sp).length
   ·refine ⟨.sl id sz 0 (xs.length+ys.length),h.set id (.arr ety sz (splice (xs++sp) ys xs.length) cap),?_,.arr id (sp.drop ys.length) cap (by simp) ?_ (by exact hl) hi,(Ext.refl hlo wf).set hi hlt,fun k _ q=>by rw [get_set wf hlt,if_neg (hne k q)],fun k _ q sz' off' len' e=>by injection e with e1;exact hne k q e1.symm⟩
    ·rw [←hA];exact appendD_in hg hin hl hb hb1 hy
    ·rw [get_set wf hlt,if_pos rfl]
     simp only [splice,List.take_left',List.append_assoc]
     congr 3
     rw [List.drop_append]
     simp
   ·cases cap with
    | none =>
     refine ⟨.sl h.n sz 0 (xs.length+ys.length),(h.set id .dead).push (.arr ety sz (xs++ys) none),?_,.arr h.n [] none (by simp) ?_ (by exact hlim) hlo,((Ext.refl hlo wf).set hi hlt).push,fun k hk q=>by rw [get_push,if_neg (by show ¬k=h.n;omega),get_set wf hlt,if_neg (hne k q)],fun k hk _ sz' off' len' e=>by injection e;omega⟩
     ·rw [←hA]
      simp only [appendD,hye,hg]
      simp only [Bool.false_eq_true,if_false,true_and,Nat.zero_add,List.drop_zero]
      rw [if_pos ⟨by simp,hb,by omega⟩,if_neg hin,if_pos hl]
      simp
     ·simpa using get_push_new (h:=h.set id .dead)
    | some c =>
     refine ⟨.sl h.n sz 0 (xs.length+ys.length),h.push (.arr ety sz (xs++ys) none),?_,.arr h.n [] none (by simp) ?_ (by exact hlim) hlo,(Ext.refl hlo wf).push,fun k hk _=>by rw [get_push,if_neg (by omega)],fun k hk _ sz' off' len' e=>by injection e;omega⟩
     ·rw [←hA]
      rw [appendD_new hg (by simp) (by omega) hb hb1 hy]
      simp
     ·simpa using get_push_new (h:=h)
def takeL (tree:ID):List Entry→List Entry→List Entry→List Entry×List Entry
 | done,[],ups=>(done,ups)
 | done,e::r,ups=>if e.tree=tree∧e.up=false∧coveredB (done++e::r) tree e.pred=false then takeL tree (done++[{e with up:=true}]) r (ups++[{e with up:=true}]) else takeL tree (done++[e]) r ups
def takeB (b : Broker) (tree sub : ID) (frm : Int) : Broker × List Entry × Bool :=
  match b.entries.find? (isE tree sub) with
  | none => (b, [], false)
  | some e => if e.frm = frm then
      (if e.up = true then ({ b with entries := (takeL tree [] (b.entries.filter fun x => !isE tree sub x) []).1 }, (takeL tree [] (b.entries.filter fun x => !isE tree sub x) []).2, true)
       else ({ b with entries := b.entries.filter fun x => !isE tree sub x }, [], false))
    else (b, [], false)
end Go.Dm.Tc
/-
What functions of the program compute,part 19: an entry taken out (the loop).
-/
namespace Go.Dm.Tc
theorem own_set {lo:Nat} {h:Heap} {v:DV} {ety sz:Nat} {xs:List DV} (w:OwnR lo h v ety sz xs) (wf:WF h) {id:Nat} {o:DO} (hlt:id<h.n) (na:NotAt v id):OwnR lo (h.set id o) v ety sz xs:=by
 cases w with
 | nil hv hx=>exact .nil hv hx
 | arr k sp cap hv hg hl hi =>
  have hne:¬k=id:=fun e=>by subst e;exact na _ _ _ hv
  exact .arr k sp cap hv (by rw [get_set wf hlt,if_neg hne];exact hg) hl hi
end Go.Dm.Tc
/-
What functions of the program compute,part 20: an entry taken out.
-/
namespace Go.Dm.Tc
end Go.Dm.Tc
/-
What the reference's functions compute,part 8: an entry taken out (the loop).
-/
namespace Go.Dm.Tc
end Go.Dm.Tc
/-
What the reference's functions compute,part 9: an entry taken out.
-/
namespace Go.Dm.Tc
end Go.Dm.Tc
/-
What every broker keeps that calls made: plain laws (learned,forgotten,added,taken out).
-/
namespace Go.Dm.Tc
theorem parentOf_eq (b:Broker) (x:ID):parentOf b x=((advOf b x).getD advZero).parent:=rfl
theorem coveredB_iff {l:List Entry} {t:ID} {p:Pred}:coveredB l t p=true↔∃ e∈l,e.tree=t∧e.up=true∧coversP e.pred p=true:=by
 unfold coveredB ofT
 rw [List.any_eq_true]
 constructor
 ·rintro ⟨e,he,h⟩
  have:=List.mem_filter.1 he
  rw [Bool.and_eq_true]at h
  exact ⟨e,this.1,by simpa using this.2,h.1,h.2⟩
 ·rintro ⟨e,he,h1,h2,h3⟩
  exact ⟨e,List.mem_filter.2 ⟨he,by simpa using h1⟩,by rw [h2,h3];rfl⟩
theorem insE_mem {e x:Entry} {l:List Entry}:x∈insE e l↔x=e∨x∈l:=by
 unfold insE
 rw [List.mem_append,List.mem_cons]
 constructor
 ·rintro (h|h|h)
  ·exact .inr (List.mem_of_mem_take h)
  ·exact .inl h
  ·exact .inr (List.mem_of_mem_drop h)
 ·rintro (h|h)
  ·exact .inr (.inl h)
  ·rw [←List.take_append_drop (lowIdx (sgnE e.tree e.sub) l) l,List.mem_append]at h
   exact h.elim .inl fun h=>.inr (.inr h)
theorem insE_len (e:Entry) (l:List Entry):(insE e l).length=l.length+1:=by
 unfold insE
 rw [List.length_append,List.length_cons,List.length_take,List.length_drop]
 have:=lowIdx_le (sgnE e.tree e.sub) l
 omega
theorem sgnE_gt {t s:ID} {a:Entry} (h1:¬sgnE t s a<0) (h2:¬(a.tree=t∧a.sub=s)) (e:Entry) (he:e.tree=t) (he2:e.sub=s):sgnE a.tree a.sub e<0:=by
 rw [sgnE_lt,ltID_iff,ltID_iff]at *
 rw [he,he2]
 rw [ID.ext',ID.ext']at h2
 rw [ID.ext']at *
 omega
theorem insE_rising {e:Entry} {l:List Entry} (h:RisingE l) (hn:∀x∈l,isE e.tree e.sub x=false):RisingE (insE e l):=by
 unfold RisingE insE
 rw [List.pairwise_append,List.pairwise_cons]
 generalize hk:lowIdx (sgnE e.tree e.sub) l=k
 have hlow:∀b∈l.take k,sgnE e.tree e.sub b<0:=by
  intro b hb
  obtain ⟨i,hi,rfl⟩:=List.mem_iff_getElem.1 hb
  rw [List.getElem_take]
  rw [List.length_take]at hi
  have:=List.not_of_lt_findIdx (p:=fun x=>!decide (sgnE e.tree e.sub x<0)) (xs:=l) (i:=i) (by unfold lowIdx at hk;omega)
  simpa using this
 have hhigh:∀b∈l.drop k,sgnE b.tree b.sub e<0:=by
  intro b hb
  obtain ⟨i,hi,rfl⟩:=List.mem_iff_getElem.1 hb
  rw [List.length_drop]at hi
  rw [List.getElem_drop]
  have hkl:k<l.length:=by omega
  have h1:¬sgnE e.tree e.sub l[k]<0:=by
   have:=List.findIdx_getElem (p:=fun x=>!decide (sgnE e.tree e.sub x<0)) (xs:=l) (w:=by unfold lowIdx at hk;omega)
   have hk':List.findIdx (fun x=>!decide (sgnE e.tree e.sub x<0)) l=k:=hk
   simp only [hk']at this
   simpa using this
  have h2:¬sgnE e.tree e.sub l[k+i]<0:=fun hc=>h1 (monoE h _ _ k (k+i) hkl (by omega) (by omega) hc)
  refine sgnE_gt h2 ?_ e rfl rfl
  have:=hn l[k+i] (List.getElem_mem _)
  simpa [isE] using this
 refine ⟨h.sublist (List.take_sublist ..),⟨fun b hb=>hhigh b hb,h.sublist (List.drop_sublist ..)⟩,?_⟩
 intro x hx y hy
 rcases List.mem_cons.1 hy with rfl|hy
 ·exact hlow x hx
 ·exact sgnE_trans (hlow x hx) (by have:=hhigh y hy;omega)
structure InvK (b:Broker):Prop where
 near:risesB (fun x y=>decide (x<y)) b.near=true
 loc:∀x∈b.near,0≤x
 ra:Rising (b.adverts.map (·.id))
 rs:Rising b.seen
 ro:Rising (b.owns.map (·.id))
 re:RisingE b.entries
 sub:∀a∈b.adverts,a.id∈b.seen
 par:∀a∈b.adverts,linkB b a.parent=true
 pa:∀a∈b.adverts,PredOk a.pred
 po:∀o∈b.owns,PredOk o.pred
 ent:∀e∈b.entries,rightEnt b e=true
 pe:∀e∈b.entries,PredOk e.pred
 tight:tightB b=true
structure SzK (b:Broker) (n:Nat):Prop where
 near:b.near.length≤1000
 adv:b.adverts.length≤n
 seen:b.seen.length≤n
 own:b.owns.length≤n
 ent:b.entries.length≤n*n
theorem SzK.mono {b:Broker} {n m:Nat} (h:SzK b n) (hn:n≤m):SzK b m:=by
 have:=Nat.mul_le_mul hn hn
 obtain ⟨h1,h2,h3,h4,h5⟩:=h
 exact ⟨h1,by omega,by omega,by omega,by omega⟩
theorem InvK.right {b:Broker} (h:InvK b):rightB b=true:=by
 unfold rightB rightRows
 rw [h.near,of_rising (key:=fun a:Advert=>a.id) h.ra,of_rising (key:=fun a:OwnS=>a.id) h.ro,of_risesE h.re,show risesB (fun x y=>ltID x y) b.seen=true from of_rising (key:=fun a:ID=>a) (by simpa using h.rs)]
 have h1:(b.adverts.any fun a=>!rightAdv b a)=false:=by
  rw [List.any_eq_false]
  intro a ha
  simp [rightAdv,h.sub a ha,h.par a ha,(h.pa a ha).right]
 have h2:(b.entries.any fun e=>!rightEnt b e)=false:=by
  rw [List.any_eq_false]
  intro e he
  simp [h.ent e he]
 have h3:(b.owns.any fun o=>!rightP o.pred)=false:=by
  rw [List.any_eq_false]
  intro o ho
  simp [(h.po o ho).right]
 rw [h1,h2,h3]
 rfl
theorem rightEnt_iff {b:Broker} {e:Entry}:rightEnt b e=true↔∃ a,advOf b e.tree=some a∧linkB b e.frm=true∧(e.frm=a.parent→a.parent=-1)∧(e.up=true→a.parent≠-1)∧rightP e.pred=true:=by
 unfold rightEnt advOf
 cases b.adverts.find? (fun a=>a.id=e.tree) with
 | none=>simp
 | some a =>
  simp only [Option.some.injEq,exists_eq_left',Bool.and_eq_true,Bool.or_eq_true,Bool.not_eq_true',Bool.and_eq_false_iff,decide_eq_true_eq,decide_eq_false_iff_not]
  constructor
  ·rintro ⟨⟨⟨h1,h2⟩,h3⟩,h4⟩
   exact ⟨h1,fun q=>h2.resolve_left (fun hn=>hn q),fun q=>h3.resolve_left (by rw [q];decide),h4⟩
  ·rintro ⟨h1,h2,h3,h4⟩
   refine ⟨⟨⟨h1,?_⟩,?_⟩,h4⟩
   ·by_cases q:e.frm=a.parent
    ·exact .inr (h2 q)
    ·exact .inl q
   ·cases q:e.up with
    | false=>exact .inl rfl
    | true=>exact .inr (h3 q)
theorem tightB_iff {b:Broker}:tightB b=true↔∀e∈b.entries,e.up=true∨parentOf b e.tree=-1∨coveredB b.entries e.tree e.pred=true:=by
 unfold tightB
 rw [List.all_eq_true]
 simp only [tightE,Bool.or_eq_true,decide_eq_true_eq,or_assoc]
theorem linkB_near {b b':Broker} (h:b'.near=b.near) (n:Int):linkB b' n=linkB b n:=by unfold linkB;rw [h]
theorem rightEnt_same {b b':Broker} {e:Entry} (h:b'.near=b.near) (ha:advOf b' e.tree=advOf b e.tree):rightEnt b' e=rightEnt b e:=by
 rw [Bool.eq_iff_iff,rightEnt_iff,rightEnt_iff,ha]
 simp only [linkB_near h]
theorem InvK.start {me:Int} {near:List Int} (hn:risesB (fun x y=>decide (x<y)) near=true) (hl:∀x∈near,0≤x):InvK ⟨me,near,[],[],[],[]⟩ :=
 ⟨hn,hl,.nil,.nil,.nil,.nil,fun a h=>(by cases h),fun a h=>(by cases h),fun a h=>(by cases h),fun a h=>(by cases h),fun a h=>(by cases h),fun a h=>(by cases h),rfl⟩
theorem SzK.start {me:Int} {near:List Int} (hn:near.length≤1000):SzK ⟨me,near,[],[],[],[]⟩ 0:=⟨hn,Nat.le_refl _,Nat.le_refl _,Nat.le_refl _,Nat.le_refl _⟩
theorem mayAdd_iff {b:Broker} {e:Entry}:mayAdd b e=true↔∃ a,advOf b e.tree=some a∧(∀x∈b.entries,isE e.tree e.sub x=false)∧(e.frm=a.parent→a.parent=-1):=by
 unfold mayAdd advOf
 cases b.adverts.find? (fun a=>a.id=e.tree) with
 | none=>simp
 | some a =>
  simp only [Option.some.injEq,exists_eq_left',Bool.and_eq_true,Bool.not_eq_true',Bool.and_eq_false_iff,List.any_eq_false,Bool.not_eq_true,decide_eq_false_iff_not,Bool.not_eq_false',decide_eq_true_eq]
  refine and_congr Iff.rfl ⟨fun h q=>h.resolve_left (fun hn=>hn q),fun h=>?_⟩
  by_cases q:e.frm=a.parent
  ·exact .inr (h q)
  ·exact .inl q
theorem covered_mono {l l':List Entry} {t:ID} {p:Pred} (h:∀e∈l,e∈l') (hc:coveredB l t p=true):coveredB l' t p=true:=by
 rw [coveredB_iff]at *
 obtain ⟨e,he,h2⟩:=hc
 exact ⟨e,h e he,h2⟩
theorem InvK.add {b:Broker} (h:InvK b) {e:Entry} (hl:linkB b e.frm=true) (hp:PredOk e.pred):InvK (addB b e).1:=by
 by_cases hm:mayAdd b e=true
 ·obtain ⟨a,ha,hno,hfp⟩:=mayAdd_iff.1 hm
  unfold addB
  rw [if_pos hm]
  have hpar:parentOf b e.tree=a.parent:=by rw [parentOf_eq,ha];rfl
  refine ⟨h.near,h.loc,h.ra,h.rs,h.ro,?_,h.sub,h.par,h.pa,h.po,?_,?_,?_⟩
  ·exact insE_rising (e:={e with up:=upOf b e}) h.re hno
  ·intro x hx
   rw [insE_mem]at hx
   have hs:∀y,rightEnt {b with entries:=insE {e with up:=upOf b e} b.entries} y=rightEnt b y:=fun y=>rightEnt_same rfl rfl
   rw [hs]
   rcases hx with rfl|hx
   ·rw [rightEnt_iff]
    refine ⟨a,ha,hl,hfp,?_,hp.right⟩
    intro hu hpp
    simp only [upOf,hpar,hpp]at hu
    simp at hu
   ·exact h.ent x hx
  ·intro x hx
   rw [insE_mem]at hx
   rcases hx with rfl|hx
   ·exact hp
   ·exact h.pe x hx
  ·rw [tightB_iff]
   intro x hx
   have hs:∀y,parentOf {b with entries:=insE {e with up:=upOf b e} b.entries} y=parentOf b y:=fun y=>rfl
   rw [hs]
   have hx':=hx
   rw [insE_mem]at hx
   rcases hx with rfl|hx
   ·by_cases hpp:a.parent=-1
    ·exact .inr (.inl (by rw [hpar,hpp]))
    ·cases hcv:coveredB b.entries e.tree e.pred with
     | true=>exact .inr (.inr (covered_mono (fun y hy=>insE_mem.2 (.inr hy)) hcv))
     | false=>left;simp [upOf,hpar,hpp,hcv]
   ·rcases tightB_iff.1 h.tight x hx with h1|h1|h1
    ·exact .inl h1
    ·exact .inr (.inl h1)
    ·exact .inr (.inr (covered_mono (fun y hy=>insE_mem.2 (.inr hy)) h1))
 ·unfold addB
  rw [if_neg hm];exact h
inductive Raised (t:ID):List Entry→List Entry→Prop where
 | nil:Raised t [] []
 | keep (e:Entry) {l l':List Entry} (h:Raised t l l'):Raised t (e::l) (e::l')
 | up (e:Entry) {l l':List Entry} (ht:e.tree=t) (hu:e.up=false) (h:Raised t l l'):Raised t (e::l) ({e with up:=true}::l')
theorem Raised.refl (t:ID):∀l,Raised t l l
 | []=>.nil
 | e::l=>.keep e (Raised.refl t l)
theorem Raised.append {t:ID} {a a' b b':List Entry} (h:Raised t a a') (k:Raised t b b'):Raised t (a++b) (a'++b'):=by
 induction h with
 | nil=>exact k
 | keep e _ ih=>exact .keep e ih
 | up e ht hu _ ih=>exact .up e ht hu ih
theorem Raised.len {t:ID} {a a':List Entry} (h:Raised t a a'):a'.length=a.length:=by
 induction h with
 | nil=>rfl
 | keep e _ ih=>simp [ih]
 | up e ht hu _ ih=>simp [ih]
theorem Raised.mem {t:ID} {a a':List Entry} (h:Raised t a a') {x:Entry} (hx:x∈a'):x∈a∨∃ e∈a,e.tree=t∧e.up=false∧x={e with up:=true}:=by
 induction h with
 | nil=>cases hx
 | keep e _ ih =>
  rcases List.mem_cons.1 hx with rfl|hx
  ·exact .inl (List.mem_cons_self ..)
  ·rcases ih hx with h|⟨y,hy,h⟩
   ·exact .inl (List.mem_cons_of_mem _ h)
   ·exact .inr ⟨y,List.mem_cons_of_mem _ hy,h⟩
 | up e ht hu _ ih =>
  rcases List.mem_cons.1 hx with rfl|hx
  ·exact .inr ⟨e,List.mem_cons_self ..,ht,hu,rfl⟩
  ·rcases ih hx with h|⟨y,hy,h⟩
   ·exact .inl (List.mem_cons_of_mem _ h)
   ·exact .inr ⟨y,List.mem_cons_of_mem _ hy,h⟩
theorem Raised.of_mem {t:ID} {a a':List Entry} (h:Raised t a a') {x:Entry} (hx:x∈a):x∈a'∨(x.tree=t∧x.up=false∧{x with up:=true}∈a'):=by
 induction h with
 | nil=>cases hx
 | keep e _ ih =>
  rcases List.mem_cons.1 hx with rfl|hx
  ·exact .inl (List.mem_cons_self ..)
  ·rcases ih hx with h|⟨h1,h2,h3⟩
   ·exact .inl (List.mem_cons_of_mem _ h)
   ·exact .inr ⟨h1,h2,List.mem_cons_of_mem _ h3⟩
 | up e ht hu _ ih =>
  rcases List.mem_cons.1 hx with rfl|hx
  ·exact .inr ⟨ht,hu,List.mem_cons_self ..⟩
  ·rcases ih hx with h|⟨h1,h2,h3⟩
   ·exact .inl (List.mem_cons_of_mem _ h)
   ·exact .inr ⟨h1,h2,List.mem_cons_of_mem _ h3⟩
theorem Raised.rising {t:ID} {a a':List Entry} (h:Raised t a a') (hr:RisingE a):RisingE a':=by
 induction h with
 | nil=>exact hr
 | keep e h ih =>
  unfold RisingE at *
  rw [List.pairwise_cons]at *
  refine ⟨fun x hx=>?_,ih hr.2⟩
  rcases h.mem hx with hx|⟨y,hy,_,_,rfl⟩
  ·exact hr.1 x hx
  ·exact hr.1 y hy
 | up e ht hu h ih =>
  unfold RisingE at *
  rw [List.pairwise_cons]at *
  refine ⟨fun x hx=>?_,ih hr.2⟩
  have:∀t s,sgnE t s {e with up:=true}=sgnE t s e:=fun t s=>rfl
  rw [this]
  rcases h.mem hx with hx|⟨y,hy,_,_,rfl⟩
  ·exact hr.1 x hx
  ·exact hr.1 y hy
theorem Raised.covered {t:ID} {a a':List Entry} (h:Raised t a a') {t':ID} {p:Pred} (hc:coveredB a t' p=true):coveredB a' t' p=true:=by
 rw [coveredB_iff]at *
 obtain ⟨e,he,h1,h2,h3⟩:=hc
 rcases h.of_mem he with hx|⟨_,hx,_⟩
 ·exact ⟨e,hx,h1,h2,h3⟩
 ·rw [h2]at hx;cases hx
theorem takeL_raised (t:ID):∀(rest done ups:List Entry),∃ r',(takeL t done rest ups).1=done++r'∧Raised t rest r'∧(∀x∈r',x.tree=t→x.up=true∨coveredB (done++r') t x.pred=true) ∧
  ∃ u',(takeL t done rest ups).2=ups++u'∧∀x∈u',x∈r'∧x.tree=t∧x.up=true∧{x with up:=false}∈rest∧coveredB (done++rest) t x.pred=false:=by
 intro rest
 induction rest with
 | nil=>intro done ups;exact ⟨[],by simp [takeL],.nil,(fun x hx=>by cases hx),[],by simp [takeL],(fun x hx=>by cases hx)⟩
 | cons e rest ih =>
  intro done ups
  unfold takeL
  by_cases hc:e.tree=t∧e.up=false∧coveredB (done++e::rest) t e.pred=false
  ·rw [if_pos hc]
   obtain ⟨r',h1,h2,h3,u',h4,h5⟩:=ih (done++[{e with up:=true}]) (ups++[{e with up:=true}])
   refine ⟨{e with up:=true}::r',by rw [h1];simp,.up e hc.1 hc.2.1 h2,?_,{e with up:=true}::u',by rw [h4];simp,?_⟩
   ·intro x hx ht
    rcases List.mem_cons.1 hx with rfl|hx
    ·exact .inl rfl
    ·have:=h3 x hx ht
     simpa using this
   ·intro x hx
    rcases List.mem_cons.1 hx with rfl|hx
    ·have he:({{e with up:=true} with up:=false}:Entry)=e:=by obtain ⟨a1,a2,a3,a4,a5⟩:=e;simp only at hc;rw [hc.2.1]
     exact ⟨List.mem_cons_self ..,hc.1,rfl,by rw [he];exact List.mem_cons_self ..,hc.2.2⟩
    ·obtain ⟨k1,k2,k3,k4,k5⟩:=h5 x hx
     refine ⟨List.mem_cons_of_mem _ k1,k2,k3,List.mem_cons_of_mem _ k4,?_⟩
     have hR:Raised t (done++e::rest) (done++[{e with up:=true}]++rest):=by
      rw [List.append_assoc]
      exact (Raised.refl t done).append (.up e hc.1 hc.2.1 (.refl t rest))
     cases hq:coveredB (done++e::rest) t x.pred with
     | false=>rfl
     | true=>rw [hR.covered hq]at k5;cases k5
  ·rw [if_neg hc]
   obtain ⟨r',h1,h2,h3,u',h4,h5⟩:=ih (done++[e]) ups
   refine ⟨e::r',by rw [h1];simp,.keep e h2,?_,u',h4,?_⟩
   ·intro x hx ht
    rcases List.mem_cons.1 hx with rfl|hx
    ·cases hu:x.up with
     | true=>exact .inl rfl
     | false =>
      cases hq:coveredB (done++x::rest) t x.pred with
      | true=>exact .inr (((Raised.refl t done).append (.keep x h2)).covered hq)
      | false=>exact absurd ⟨ht,hu,hq⟩ hc
    ·have:=h3 x hx ht
     simpa using this
   ·intro x hx
    obtain ⟨k1,k2,k3,k4,k5⟩:=h5 x hx
    exact ⟨List.mem_cons_of_mem _ k1,k2,k3,List.mem_cons_of_mem _ k4,by simpa using k5⟩
theorem take_cases {b:Broker} (h:InvK b) (t s:ID) (q:Int) :
  ((takeB b t s q)=(b,[],false)∧∀e∈b.entries,isE t s e=true→e.frm≠q) ∨
  (∃ e∈b.entries,isE t s e=true∧e.frm=q∧e.up=false∧takeB b t s q=({b with entries:=b.entries.filter fun x=>!isE t s x},[],false)) ∨
  (∃ e∈b.entries,isE t s e=true∧e.frm=q∧e.up=true∧∃ r' u',takeB b t s q=({b with entries:=r'},u',true)∧Raised t (b.entries.filter fun x=>!isE t s x) r' ∧
   (∀x∈r',x.tree=t→x.up=true∨coveredB r' t x.pred=true)∧∀x∈u',x∈r'∧x.tree=t∧x.up=true∧{x with up:=false}∈b.entries.filter (fun x=>!isE t s x)∧coveredB (b.entries.filter fun x=>!isE t s x) t x.pred=false):=by
 unfold takeB
 cases hf:b.entries.find? (isE t s) with
 | none =>
  left
  refine ⟨rfl,fun e he hi=>?_⟩
  have:=List.find?_eq_none.1 hf e he
  exact absurd hi this
 | some e =>
  have he:=List.mem_of_find?_eq_some hf
  have hi:=List.find?_some hf
  by_cases hq:e.frm=q
  ·simp only [if_pos hq]
   cases hu:e.up with
   | false =>
    right;left
    exact ⟨e,he,hi,hq,hu,by simp⟩
   | true =>
    right;right
    obtain ⟨r',h1,h2,h3,u',h4,h5⟩:=takeL_raised t (b.entries.filter fun x=>!isE t s x) [] []
    refine ⟨e,he,hi,hq,hu,r',u',by simp [h1,h4],h2,by simpa using h3,by simpa using h5⟩
  ·left
   refine ⟨by simp only [if_neg hq],fun x hx hix=>?_⟩
   have hkey:x=e:=by
    by_cases hxe:x=e
    ·exact hxe
    ·exfalso
     have k1:x.tree=t∧x.sub=s:=by simpa [isE] using hix
     have k2:e.tree=t∧e.sub=s:=by simpa [isE] using hi
     obtain ⟨i,hi1,rfl⟩:=List.mem_iff_getElem.1 hx
     obtain ⟨j,hj1,rfl⟩:=List.mem_iff_getElem.1 he
     rcases Nat.lt_trichotomy i j with hlt|he|hlt
     ·have:=List.pairwise_iff_getElem.1 h.re i j hi1 hj1 hlt
      rw [k2.1,k2.2,sgnE_eq.2 k1]at this;omega
     ·subst he;exact hxe rfl
     ·have:=List.pairwise_iff_getElem.1 h.re j i hj1 hi1 hlt
      rw [k1.1,k1.2,sgnE_eq.2 k2]at this;omega
   rw [hkey];exact hq
theorem InvK.entries {b b':Broker} (h:InvK b) (hb:b'={b with entries:=b'.entries}) (hre:RisingE b'.entries) (he:∀e∈b'.entries,∃ d∈b.entries,e.tree=d.tree∧e.pred=d.pred∧e.frm=d.frm∧(e.up=true→parentOf b e.tree≠-1))
  (ht:∀e∈b'.entries,e.up=true∨parentOf b e.tree=-1∨coveredB b'.entries e.tree e.pred=true):InvK b':=by
 have hA:b'.adverts=b.adverts:=by rw [hb]
 have hN:b'.near=b.near:=by rw [hb]
 have hS:b'.seen=b.seen:=by rw [hb]
 have hO:b'.owns=b.owns:=by rw [hb]
 have ho:∀x,advOf b' x=advOf b x:=fun x=>by unfold advOf;rw [hA]
 refine ⟨by rw [hN];exact h.near,by rw [hN];exact h.loc,by rw [hA];exact h.ra,by rw [hS];exact h.rs,by rw [hO];exact h.ro,hre,by rw [hA,hS];exact h.sub,?_,by rw [hA];exact h.pa,by rw [hO];exact h.po,?_,?_,?_⟩
 ·intro a ha;rw [linkB_near hN];rw [hA]at ha;exact h.par a ha
 ·intro e hm
  obtain ⟨d,hd,k1,k2,k3,k4⟩:=he e hm
  rw [rightEnt_same hN (ho _),rightEnt_iff]
  obtain ⟨a,a1,a2,a3,a4,a5⟩:=rightEnt_iff.1 (h.ent d hd)
  refine ⟨a,by rw [k1];exact a1,by rw [k3];exact a2,by rw [k3];exact a3,fun hu=>?_,by rw [k2];exact a5⟩
  have:=k4 hu
  rw [parentOf_eq,k1,a1]at this
  exact this
 ·intro e hm
  obtain ⟨d,hd,_,k2,_⟩:=he e hm
  rw [k2];exact h.pe d hd
 ·rw [tightB_iff]
  intro e hm
  have:parentOf b' e.tree=parentOf b e.tree:=by rw [parentOf_eq,ho,←parentOf_eq]
  rw [this]
  exact ht e hm
theorem InvK.up {b:Broker} (h:InvK b) {e:Entry} (he:e∈b.entries) (hu:e.up=true):parentOf b e.tree≠-1:=by
 obtain ⟨a,a1,_,_,a4,_⟩:=rightEnt_iff.1 (h.ent e he)
 rw [parentOf_eq,a1]
 exact a4 hu
theorem InvK.take {b:Broker} (h:InvK b) (t s:ID) (q:Int):InvK (takeB b t s q).1:=by
 have hsub:∀x∈b.entries.filter (fun x=>!isE t s x),x∈b.entries:=fun x hx=>(List.mem_filter.1 hx).1
 have hrf:RisingE (b.entries.filter fun x=>!isE t s x):=h.re.sublist (List.filter_sublist ..)
 rcases take_cases h t s q with ⟨hc,_⟩|⟨e,he,hi,_,hu,hc⟩|⟨e,he,hi,_,hu,r',u',hc,hR,htt,_⟩
 ·rw [hc];exact h
 ·rw [hc]
  refine h.entries rfl hrf ?_ ?_
  ·intro x hx
   exact ⟨x,hsub x hx,rfl,rfl,rfl,fun hux=>h.up (hsub x hx) hux⟩
  ·intro x hx
   rcases tightB_iff.1 h.tight x (hsub x hx) with h1|h1|h1
   ·exact .inl h1
   ·exact .inr (.inl h1)
   ·refine .inr (.inr ?_)
    rw [coveredB_iff]at *
    obtain ⟨d,hd,k1,k2,k3⟩:=h1
    refine ⟨d,List.mem_filter.2 ⟨hd,?_⟩,k1,k2,k3⟩
    cases hid:isE t s d with
    | false=>rfl
    | true =>
     exfalso
     have q1:d.tree=t∧d.sub=s:=by simpa [isE] using hid
     have q2:e.tree=t∧e.sub=s:=by simpa [isE] using hi
     have:d=e:=by
      by_cases hde:d=e
      ·exact hde
      ·exfalso
       obtain ⟨i,hi1,rfl⟩:=List.mem_iff_getElem.1 hd
       obtain ⟨j,hj1,rfl⟩:=List.mem_iff_getElem.1 he
       rcases Nat.lt_trichotomy i j with hlt|hee|hlt
       ·have:=List.pairwise_iff_getElem.1 h.re i j hi1 hj1 hlt
        rw [q2.1,q2.2,sgnE_eq.2 q1]at this;omega
       ·subst hee;exact hde rfl
       ·have:=List.pairwise_iff_getElem.1 h.re j i hj1 hi1 hlt
        rw [q1.1,q1.2,sgnE_eq.2 q2]at this;omega
     rw [this,hu]at k2;cases k2
 ·have hpt:parentOf b t≠-1:=by
   have:=h.up he hu
   have q2:e.tree=t∧e.sub=s:=by simpa [isE] using hi
   rw [q2.1]at this;exact this
  rw [hc]
  refine h.entries rfl (hR.rising hrf) ?_ ?_
  ·intro x hx
   rcases hR.mem hx with hx|⟨y,hy,h1,h2,rfl⟩
   ·exact ⟨x,hsub x hx,rfl,rfl,rfl,fun hux=>h.up (hsub x hx) hux⟩
   ·exact ⟨y,hsub y hy,rfl,rfl,rfl,fun _=>by rw [h1];exact hpt⟩
  ·intro x hx
   by_cases hxt:x.tree=t
   ·rcases htt x hx hxt with k|k
    ·exact .inl k
    ·exact .inr (.inr (by rw [hxt];exact k))
   ·have hx':x∈b.entries.filter fun x=>!isE t s x:=by
     rcases hR.mem hx with hx|⟨y,hy,h1,h2,rfl⟩
     ·exact hx
     ·exact absurd h1 hxt
    rcases tightB_iff.1 h.tight x (hsub x hx') with h1|h1|h1
    ·exact .inl h1
    ·exact .inr (.inl h1)
    ·refine .inr (.inr (hR.covered ?_))
     rw [coveredB_iff]at *
     obtain ⟨d,hd,k1,k2,k3⟩:=h1
     refine ⟨d,List.mem_filter.2 ⟨hd,?_⟩,k1,k2,k3⟩
     have:¬(d.tree=t∧d.sub=s):=fun hh=>hxt (by rw [←k1];exact hh.1)
     simp [isE,this]
theorem take_len {b:Broker} (h:InvK b) (t s:ID) (q:Int):(takeB b t s q).1.entries.length≤b.entries.length:=by
 rcases take_cases h t s q with ⟨hc,_⟩|⟨e,_,_,_,_,hc⟩|⟨e,_,_,_,_,r',u',hc,hR,_⟩
 ·rw [hc];exact Nat.le_refl _
 ·rw [hc];exact List.length_filter_le ..
 ·rw [hc]
  show r'.length≤_
  rw [hR.len];exact List.length_filter_le ..
theorem take_rest (b:Broker) (t s:ID) (q:Int):(takeB b t s q).1={b with entries:=(takeB b t s q).1.entries}:=by
 unfold takeB
 split
 ·rfl
 ·split
  ·split<;>rfl
  ·rfl
theorem add_rest (b:Broker) (e:Entry):(addB b e).1={b with entries:=(addB b e).1.entries}:=by
 unfold addB
 split<;>rfl
theorem add_len (b:Broker) (e:Entry):(addB b e).1.entries.length≤b.entries.length+1:=by
 unfold addB
 split
 ·simp only [insE_len];exact Nat.le_refl _
 ·exact Nat.le_succ _
theorem SzK.take {b:Broker} {n:Nat} (h:SzK b n) (hi:InvK b) (t s:ID) (q:Int):SzK (takeB b t s q).1 n:=by
 have h1:=take_len hi t s q
 rw [take_rest]at h1 ⊢
 obtain ⟨a1,a2,a3,a4,a5⟩:=h
 exact ⟨a1,a2,a3,a4,Nat.le_trans h1 a5⟩
theorem SzK.add {b:Broker} {n:Nat} (h:SzK b n) (e:Entry):SzK (addB b e).1 (n+1):=by
 have h1:=add_len b e
 rw [add_rest]at h1 ⊢
 obtain ⟨a1,a2,a3,a4,a5⟩:=h
 have:(n+1)*(n+1)=n*n+n+n+1:=by rw [Nat.add_mul,Nat.mul_add];omega
 exact ⟨a1,Nat.le_succ_of_le a2,Nat.le_succ_of_le a3,Nat.le_succ_of_le a4,by simp only at h1 ⊢;omega⟩
end Go.Dm.Tc
/-
Brokers as one datum: what the machine's steps do to it;what functions answer of a broker that calls made.
-/
namespace Go.Dm.Tc
theorem agg_bC (t:Tags) (b:Broker):DV.agg (bCells t b)=eBroker t b:=_root_.id rfl
theorem ecells_eB (sz:Nat) (t:Tags) (b:Broker):ecells sz (eBroker t b)=bCells t b:=_root_.id rfl
theorem bC_len (t:Tags) (b:Broker):(bCells t b).length=6:=_root_.id rfl
theorem bC_take (t:Tags) (b:Broker):(bCells t b).take 6=bCells t b:=_root_.id rfl
theorem bC_0 (t:Tags) (b:Broker):(bCells t b)[0]?=some (.int .i64 b.me):=_root_.id rfl
theorem bC_1 (t:Tags) (b:Broker):(bCells t b)[1]?=some (eL t.near 1 cInt b.near):=_root_.id rfl
theorem bC_2 (t:Tags) (b:Broker):(bCells t b)[2]?=some (eL t.adverts 4 eAdvert b.adverts):=_root_.id rfl
theorem bC_3 (t:Tags) (b:Broker):(bCells t b)[3]?=some (eL t.seen 2 eID b.seen):=_root_.id rfl
theorem bC_4 (t:Tags) (b:Broker):(bCells t b)[4]?=some (eL t.entries 7 eEntry b.entries):=_root_.id rfl
theorem bC_5 (t:Tags) (b:Broker):(bCells t b)[5]?=some (eL t.owns 3 eOwn b.owns):=_root_.id rfl
theorem bCg_0 (t:Tags) (b:Broker) (h:0<(bCells t b).length):(bCells t b)[0]=.int .i64 b.me:=_root_.id rfl
theorem bCg_1 (t:Tags) (b:Broker) (h:1<(bCells t b).length):(bCells t b)[1]=eL t.near 1 cInt b.near:=_root_.id rfl
theorem bCg_2 (t:Tags) (b:Broker) (h:2<(bCells t b).length):(bCells t b)[2]=eL t.adverts 4 eAdvert b.adverts:=_root_.id rfl
theorem bCg_3 (t:Tags) (b:Broker) (h:3<(bCells t b).length):(bCells t b)[3]=eL t.seen 2 eID b.seen:=_root_.id rfl
theorem bCg_4 (t:Tags) (b:Broker) (h:4<(bCells t b).length):(bCells t b)[4]=eL t.entries 7 eEntry b.entries:=_root_.id rfl
theorem bCg_5 (t:Tags) (b:Broker) (h:5<(bCells t b).length):(bCells t b)[5]=eL t.owns 3 eOwn b.owns:=_root_.id rfl
theorem storable_eB (t:Tags) (b:Broker):storable 6 (eBroker t b)=true:=_root_.id rfl
theorem res_eB (tg:Bool) (h:Heap) (n:Nat) (t:Tags) (b:Broker):resolve tg h (n+2) (eBroker t b)=some (eBroker t b):=by
 simp [eBroker]
theorem ul_eB (n:Nat) (b:Broker):unlent (n+24) (eBroker .none b)=true:=by
 simp [eBroker,Tags.none]
theorem frA_eB (h:Heap) (t:Tags) (b:Broker):freezeA h (eBroker t b)=some (eBroker t b,h):=by
 simp [eBroker,frA_agg,mapH_cons,mapH_nil,fr_int,fr_eL,consH_some,consL_some,aggH_some]
theorem fieldV_eB (off:Nat) (n:Option Nat) (t:Tags) (b:Broker):fieldV off n (eBroker t b)=pickCells n (bCells t b) off:=_root_.id rfl
attribute [simp] agg_bC ecells_eB bC_len bC_take bC_0 bC_1 bC_2 bC_3 bC_4 bC_5 bCg_0 bCg_1 bCg_2 bCg_3 bCg_4 bCg_5 storable_eB res_eB ul_eB frA_eB fieldV_eB frA_int frA_eL frA_pred frA_str frA_agg mapH_nil mapH_cons fr_int fr_bool fr_nsl fr_eL fr_pred fr_isl consH_some consL_some aggH_some
section
variable {b:Broker} (t:Tags)
end
end Go.Dm.Tc
/-
What the laws' arguments are: numbers of which predicates,steps,brokers are made.
-/
namespace Go.Dm.Tc
structure PK where
 has:List Int
 vals:List Int
def PK.pred (p:PK):Pred:=mkPred p.has p.vals
structure StepK where
 kind:Int
 frm:Int
 tree:Int
 client:Int
 seq:Int
 has:List Int
 vals:List Int
structure BrokK where
 near:Int
 steps:List StepK
end Go.Dm.Tc
/-
More plain laws of brokers: one entry for a tree and a number;what covers itself;what comes of an entry taken out,of one added.
-/
namespace Go.Dm.Tc
end Go.Dm.Tc
/-
AdvertsOrder: numbers sorted: the plain law,and the walk.
-/
namespace Go.Dm.Tc
def atL (L:List Int) (i:Nat):Int:=L.getD i 0
def swp (L:List Int) (j:Nat):List Int:=(L.set (j+1) (atL L j)).set j (atL L (j+1))
def bub:Nat→List Int→List Int
 | 0,L=>L
 | j+1,L=>if atL L (j+1)<atL L j then bub j (swp L j) else L
def isr:Nat→Nat→List Int→List Int
 | 0,_,L=>L
 | k+1,i,L=>isr k (i+1) (bub i L)
def isort (L:List Int):List Int:=isr (L.length-1) 1 L
theorem atL_eq {L:List Int} {i:Nat} (h:i<L.length):atL L i=L[i]:=by simp [atL,h]
theorem swp_perm {L:List Int} {j:Nat} (h:j+1<L.length):(swp L j).Perm L:=by
 unfold swp
 rw [atL_eq (by omega:j<L.length),atL_eq h]
 exact List.set_set_perm h (by omega)
theorem swp_len (L:List Int) (j:Nat):(swp L j).length=L.length:=by simp [swp]
theorem swp_get {L:List Int} {j:Nat} (h:j+1<L.length) (k:Nat):atL (swp L j) k=if k=j then atL L (j+1) else if k=j+1 then atL L j else atL L k:=by
 have hj:j<L.length:=by omega
 unfold swp atL
 simp only [List.getD_eq_getElem?_getD,List.getElem?_set,List.length_set]
 by_cases h1:k=j
 ·subst h1;simp [hj]
 ·have h1':¬j=k:=fun e=>h1 e.symm
  by_cases h2:k=j+1
  ·subst h2;simp [h]
  ·have h2':¬j+1=k:=fun e=>h2 e.symm
   simp [h1,h1',h2,h2']
theorem bub_perm:∀(j:Nat) {L:List Int},j<L.length→(bub j L).Perm L
 | 0,_,_=>.refl _
 | j+1,L,h=>by
  unfold bub
  split
  ·exact (bub_perm j (by rw [swp_len];omega)).trans (swp_perm h)
  ·exact .refl _
theorem bub_len (j:Nat) {L:List Int} (h:j<L.length):(bub j L).length=L.length:=(bub_perm j h).length_eq
theorem bub_sorted {i:Nat}:∀(j:Nat) {L:List Int},j≤i→i<L.length→(∀p q,p<q→q≤i→p≠j→q≠j→atL L p≤atL L q)→(∀q,j<q→q≤i→atL L j≤atL L q)→∀p q,p<q→q≤i→atL (bub j L) p≤atL (bub j L) q
 | 0,L,hj,hi,h1,h2,p,q,hpq,hq=>by
  unfold bub
  by_cases hp:p=0
  ·subst hp;exact h2 q hpq hq
  ·exact h1 p q hpq hq hp (by omega)
 | j+1,L,hj,hi,h1,h2,p,q,hpq,hq=>by
  unfold bub
  have hl:j+1<L.length:=by omega
  split
  ·rename_i hc
   refine bub_sorted j (by omega) (by rw [swp_len];exact hi) ?_ ?_ p q hpq hq
   ·intro p q hpq hq hp hq2
    rw [swp_get hl,swp_get hl,if_neg hp,if_neg hq2]
    by_cases e1:p=j+1
    ·rw [if_pos e1,if_neg (by omega)]
     exact h1 j q (by omega) hq (by omega) (by omega)
    ·rw [if_neg e1]
     by_cases e2:q=j+1
     ·rw [if_pos e2]
      exact h1 p j (by omega) (by omega) (by omega) (by omega)
     ·rw [if_neg e2]
      exact h1 p q hpq hq e1 e2
   ·intro q hq1 hq
    rw [swp_get hl,swp_get hl,if_pos rfl,if_neg (by omega)]
    by_cases e2:q=j+1
    ·rw [if_pos e2];omega
    ·rw [if_neg e2];exact h2 q (by omega) hq
  ·rename_i hc
   by_cases e1:p=j+1
   ·subst e1;exact h2 q hpq hq
   ·by_cases e2:q=j+1
    ·subst e2
     by_cases e3:p=j
     ·subst e3;omega
     ·have:=h1 p j (by omega) (by omega) e1 (by omega)
      omega
    ·exact h1 p q hpq hq e1 e2
theorem isr_perm:∀(k i:Nat) {L:List Int},i+k≤L.length→(isr k i L).Perm L
 | 0,_,_,_=>.refl _
 | k+1,i,L,h=>by
  unfold isr
  have hi:i<L.length:=by omega
  exact (isr_perm k (i+1) (by rw [bub_len i hi];omega)).trans (bub_perm i hi)
theorem isr_sorted:∀(k i:Nat) {L:List Int},i+k≤L.length→(∀p q,p<q→q<i→atL L p≤atL L q)→∀p q,p<q→q<i+k→atL (isr k i L) p≤atL (isr k i L) q
 | 0,_,_,_,hs=>by simpa [isr] using hs
 | k+1,i,L,h,hs=>by
  have hi:i<L.length:=by omega
  unfold isr
  intro p q hpq hq
  refine isr_sorted k (i+1) (by rw [bub_len i hi];omega) ?_ p q hpq (by omega)
  intro p q hpq hq
  exact bub_sorted i (Nat.le_refl _) hi (fun p q hpq hq _ hq2=>hs p q hpq (by omega)) (fun q h1 h2=>by omega) p q hpq (by omega)
theorem isort_perm (L:List Int):(isort L).Perm L:=by
 unfold isort
 cases L with
 | nil=>exact .refl _
 | cons a l=>exact isr_perm _ 1 (by simp;omega)
theorem isort_sorted (L:List Int):(isort L).Pairwise (·≤·):=by
 rw [List.pairwise_iff_getElem]
 intro p q hp hq hpq
 have hl:=(isort_perm L).length_eq
 rw [←atL_eq hp,←atL_eq hq]
 unfold isort at *
 cases L with
 | nil=>simp [isr]at hp
 | cons a l=>exact isr_sorted _ 1 (by simp;omega) (fun p q h1 h2=>by omega) p q hpq (by simp at *;omega)
theorem s33 (a b:Int):pcF D t33 [.int .i64 a,.int .i64 b]=some (.bool (decide (a<b))):=by
 unfold pcF
 rw [goRun_eq _ _ _ _ (by simp [t33])]
 simp [t33,e43,s43,turn]
structure RowS (id:Nat) (sp:List DV) (cap:Option Nat) (h h':Heap) (L:List Int):Prop where
 get:h'.get id=some (.arr 3 1 (L.map cInt++sp) cap)
 n:h'.n=h.n
 lim:h'.lim=h.lim
 wf:WF h'
 oth:∀k,k≠id→h'.get k=h.get k
set_option maxRecDepth 8000 in
theorem l27a (S:List Fr) (P:Res→Prop) (id n:Nat) (sp:List DV) (cap:Option Nat) (h:Heap) (hl:h.lim≤id) (hn:n≤1000000) :
  ∀(j:Nat) (L:List Int) (f:FEnv) (h':Heap),RowS id sp cap h h' L→j<L.length→L.length=n→f 0=.sl id 1 0 n→f 1=.int .i64 0→f 7=.int .i64 j →
  (∀f' h'',f' 0=.sl id 1 0 n→f' 1=.int .i64 0→f' 2=f 2→f' 6=f 6→RowS id sp cap h h'' (bub j L)→P (ret D 49 S .normal f' h'')) →
  P (run D 49 (.block 2::S) (.loop t27l0) f h'):=by
 intro j
 induction j with
 | zero =>
  intro L f h' R hj hL h0 h1 h7 hP
  rw [run_loop_of t27l0.eq_1]
  simp [h0,h1,h7]
  exact hP _ h' (by simp [h0]) (by simp [h1]) (by simp) (by simp) R
 | succ j ih =>
  intro L f h' R hj hL h0 h1 h7 hP
  have hj':j<L.length:=by omega
  have hlt:j<n:=by omega
  have hlt1:j+1<n:=by omega
  have hx:∀k,k<L.length→(L.map cInt++sp)[k]?=some (.int .i64 (atL L k)):=fun k hk=>by
   rw [List.getElem?_append_left (by simpa using hk),List.getElem?_map,List.getElem?_eq_getElem hk,atL_eq hk];rfl
  have hx1:=hx (j+1) hj
  have hx0:=hx j hj'
  have g:=R.get
  have hlm:h'.lim≤id:=by rw [R.lim];exact hl
  have hnn:=get_some_lt g
  have hwf:=R.wf
  have hw1:IntKind.i64.wrap (j:Int)=(j:Int):=wrap64 (by omega) (by omega)
  have hi1:indexAddrV 1 (.sl id 1 0 n) (.int .i64 ((j:Int)+1))=some (.ptr id 1 (j+1) 0):=by
   have:((j:Int)+1)=((j+1:Nat):Int):=by omega
   rw [this];simp [indexAddrV,asI];omega
  have hi0:indexAddrV 1 (.sl id 1 0 n) (.int .i64 (j:Int))=some (.ptr id 1 j 0):=by simp [indexAddrV,asI,hlt]
  have hl1:=s33 (atL L (j+1)) (atL L j)
  rw [run_loop_of t27l0.eq_1]
  by_cases hc:atL L (j+1)<atL L j
  ·simp [h0,h1,h7,g,hx1,hx0,hlm,hnn,hwf,hw1,hi1,hi0,e33,hl1,hc,turn]
   generalize hF:upd _ 7 _=F
   have hb:bub (j+1) L=bub j (swp L j):=by
    show (if atL L (j+1)<atL L j then bub j (swp L j) else L)=_
    rw [if_pos hc]
   have hrow:((L.map cInt++sp).set (j+1) (.int .i64 (atL L j))).set j (.int .i64 (atL L (j+1)))=(swp L j).map cInt++sp:=by
    unfold swp
    rw [List.set_append_left _ _ (by simpa using hj),List.set_append_left _ _ (by simp;omega),List.map_set,List.map_set]
    rfl
   rw [hrow]
   have R':RowS id sp cap h (h'.set id (.arr 3 1 ((swp L j).map cInt++sp) cap)) (swp L j) :=
    ⟨by rw [get_set hwf hnn,if_pos rfl],R.n,R.lim,hwf.set,fun k hk=>by rw [get_set hwf hnn,if_neg hk];exact R.oth k hk⟩
   refine ih (swp L j) F _ R' (by rw [swp_len];exact hj') (by rw [swp_len];exact hL) ?_ ?_ ?_ ?_
   ·rw [←hF];simp [h0]
   ·rw [←hF];simp [h1]
   ·rw [←hF];simp
   ·intro f' h'' a0 a1 a2 a6 RR
    exact hP f' h'' a0 a1 (by rw [a2,←hF];simp) (by rw [a6,←hF];simp) (by rw [hb];exact RR)
  ·have hb:bub (j+1) L=L:=by
    show (if atL L (j+1)<atL L j then bub j (swp L j) else L)=_
    rw [if_neg hc]
   simp [h0,h1,h7,g,hx1,hx0,hlm,hnn,hwf,hw1,hi1,hi0,e33,hl1,hc,turn]
   exact hP _ h' (by simp [h0]) (by simp [h1]) (by simp) (by simp) (by rw [hb];exact R)
set_option maxRecDepth 8000 in
theorem l27b (id n:Nat) (sp:List DV) (cap:Option Nat) (h:Heap) (hl:h.lim≤id) (hn:n≤1000000) :
  ∀(k i:Nat) (L:List Int) (f:FEnv) (h':Heap),RowS id sp cap h h' L→i+k=n→L.length=n→f 0=.sl id 1 0 n→f 1=.int .i64 0→f 2=.int .i64 n→f 6=.int .i64 i →
  ∃ h'',fin [] (run D 49 [.block 0] (.loop t27l1) f h')=some (.tup [],h'')∧RowS id sp cap h h'' (isr k i L):=by
 intro k
 induction k with
 | zero =>
  intro i L f h' R hk hL h0 h1 h2 h6
  have hi:i=n:=by omega
  subst hi
  rw [run_loop_of t27l1.eq_1]
  simp [h2,h6]
  exact ⟨h',rfl,R⟩
 | succ k ih =>
  intro i L f h' R hk hL h0 h1 h2 h6
  have hlt:i<n:=by omega
  have hw:IntKind.i64.wrap ((i:Int)+1)=(i:Int)+1:=wrap64 (by omega) (by omega)
  rw [run_loop_of t27l1.eq_1]
  simp [h2,h6,hlt]
  generalize hF:upd _ 7 _=F
  refine l27a _ (fun r=>∃ h'',fin [] r=some (.tup [],h'')∧RowS id sp cap h h'' (isr (k+1) i L)) id n sp cap h hl hn i L F h' R (by omega) hL (by rw [←hF];simp [h0]) (by rw [←hF];simp [h1]) (by rw [←hF];simp) fun f' h'' a0 a1 a2 a6 R'=>?_
  have b2:f' 2=.int .i64 n:=by rw [a2,←hF];simp [h2]
  have b6:f' 6=.int .i64 i:=by rw [a6,←hF];simp [h6]
  simp [t27k0,b6,hw]
  generalize hG:upd _ 6 _=G
  exact ih (i+1) (bub i L) G h'' R' (by omega) (by rw [bub_len i (by omega)];exact hL) (by rw [←hG];simp [a0]) (by rw [←hG];simp [a1]) (by rw [←hG];simp [b2]) (by rw [←hG];simp)
theorem q27 (id:Nat) (sp:List DV) (cap:Option Nat) (h:Heap) (L:List Int) (g:h.get id=some (.arr 3 1 (L.map cInt++sp) cap)) (hl:h.lim≤id) (hn:L.length≤1000000) (wf:WF h) :
  ∃ h'',fc D 27 [.sl id 1 0 L.length,.int .i64 0,.int .i64 L.length] h=some (.tup [],h'')∧RowS id sp cap h h'' (isort L):=by
 rw [e27,goRun_eq _ _ _ _ (by simp [t27])]
 simp [t27]
 generalize hF:upd _ 6 _=F
 have R:RowS id sp cap h h L:=⟨g,rfl,rfl,wf,fun _ _=>rfl⟩
 unfold isort
 cases L with
 | nil =>
  have h2:F 2=.int .i64 0:=by rw [←hF];simp
  have h6:F 6=.int .i64 1:=by rw [←hF];simp
  rw [run_loop_of t27l1.eq_1]
  simp [h2,h6]
  exact ⟨h,rfl,R⟩
 | cons a l =>
  refine l27b id (a::l).length sp cap h hl hn ((a::l).length-1) 1 (a::l) F h R (by simp;omega) rfl ?_ ?_ ?_ ?_
  all_goals (rw [←hF];simp)
def lenN (n:Nat):Int:=if n=0 then 0 else if n<2 then 1 else if n<4 then 2 else if n<8 then 3 else 4
theorem s26 (n:Nat) (hn:n≤12):pcF D t26 [.int .u64 n]=some (.int .i64 (lenN n)):=by
 have:n=0∨n=1∨n=2∨n=3∨n=4∨n=5∨n=6∨n=7∨n=8∨n=9∨n=10∨n=11∨n=12:=by omega
 rcases this with rfl|rfl|rfl|rfl|rfl|rfl|rfl|rfl|rfl|rfl|rfl|rfl|rfl
 ·exact pc_run (n:=2000) (args:=[.int .u64 0]) e26 rfl (by kernel_rfl)
 ·exact pc_run (n:=2000) (args:=[.int .u64 1]) e26 rfl (by kernel_rfl)
 ·exact pc_run (n:=2000) (args:=[.int .u64 2]) e26 rfl (by kernel_rfl)
 ·exact pc_run (n:=2000) (args:=[.int .u64 3]) e26 rfl (by kernel_rfl)
 ·exact pc_run (n:=2000) (args:=[.int .u64 4]) e26 rfl (by kernel_rfl)
 ·exact pc_run (n:=2000) (args:=[.int .u64 5]) e26 rfl (by kernel_rfl)
 ·exact pc_run (n:=2000) (args:=[.int .u64 6]) e26 rfl (by kernel_rfl)
 ·exact pc_run (n:=2000) (args:=[.int .u64 7]) e26 rfl (by kernel_rfl)
 ·exact pc_run (n:=2000) (args:=[.int .u64 8]) e26 rfl (by kernel_rfl)
 ·exact pc_run (n:=2000) (args:=[.int .u64 9]) e26 rfl (by kernel_rfl)
 ·exact pc_run (n:=2000) (args:=[.int .u64 10]) e26 rfl (by kernel_rfl)
 ·exact pc_run (n:=2000) (args:=[.int .u64 11]) e26 rfl (by kernel_rfl)
 ·exact pc_run (n:=2000) (args:=[.int .u64 12]) e26 rfl (by kernel_rfl)
set_option maxRecDepth 8000 in
theorem q25 (id:Nat) (sp:List DV) (cap:Option Nat) (h:Heap) (L:List Int) (x:Int) (g:h.get id=some (.arr 3 1 (L.map cInt++sp) cap)) (hl:h.lim≤id) (hn:L.length≤12) (wf:WF h) :
  ∃ h'',fc D 25 [.sl id 1 0 L.length,.int .i64 0,.int .i64 L.length,.int .i64 x] h=some (.tup [],h'')∧RowS id sp cap h h'' (isort L):=by
 obtain ⟨h'',hq,R⟩:=q27 id sp cap h L g hl (by omega) wf
 refine ⟨h'',?_,R⟩
 have hw:IntKind.i64.wrap (L.length:Int)=L.length:=wrap64 (by omega) (by omega)
 have h12:(L.length:Int)≤12:=by omega
 rw [e25,goRun_eq _ _ _ _ (by simp [t25])]
 simp [t25]
 rw [run_loop_of t25l0.eq_1]
 simp [hw,h12,hn,hq,turn]
 rfl
theorem q22 (id:Nat) (sp:List DV) (cap:Option Nat) (h:Heap) (L:List Int) (g:h.get id=some (.arr 3 1 (L.map cInt++sp) cap)) (hl:h.lim≤id) (hn:L.length≤12) (wf:WF h) :
  ∃ h'',fc D 22 [.sl id 1 0 L.length] h=some (.tup [],h'')∧RowS id sp cap h h'' (isort L):=by
 obtain ⟨h'',hq,R⟩:=q25 id sp cap h L (lenN L.length) g hl hn wf
 refine ⟨h'',?_,R⟩
 have hb:=s26 L.length hn
 have hw:IntKind.u64.wrap (L.length:Int)=L.length:=by
  have:L.length=0∨L.length=1∨L.length=2∨L.length=3∨L.length=4∨L.length=5∨L.length=6∨L.length=7∨L.length=8∨L.length=9∨L.length=10∨L.length=11∨L.length=12:=by omega
  rcases this with e|e|e|e|e|e|e|e|e|e|e|e|e<;>rw [e]<;>rfl
 rw [e22,goRun_eq _ _ _ _ (by simp [t22])]
 simp [t22,hw,e26,hb,hq,turn]
 rfl
end Go.Dm.Tc
/-
AdvertsOrder: numbers sorted,and the same ones struck: the walk.
-/
namespace Go.Dm.Tc
def Strict (L:List Int):Prop:=L.Pairwise (·<·)
theorem strict_snoc {A:List Int} {v:Int} (h:Strict A) (hv:∀a∈A,a<v):Strict (A++[v]):=by
 unfold Strict at *
 rw [List.pairwise_append]
 exact ⟨h,List.pairwise_singleton ..,fun a ha b hb=>by rw [List.mem_singleton.1 hb];exact hv a ha⟩
theorem take_snoc {L:List Int} {p:Nat} (h:p<L.length):L.take (p+1)=L.take p++[atL L p]:=by
 rw [List.take_succ,List.getElem?_eq_getElem h,atL_eq h];rfl
theorem take_setk {M:List Int} {k:Nat} (h:k<M.length) (v:Int):(M.set k v).take (k+1)=M.take k++[v]:=by
 rw [take_snoc (by simpa using h)]
 congr 1
 ·exact List.take_set_of_le (Nat.le_refl _)
 ·simp [atL,h]
structure CompI (L M:List Int) (k p:Nat):Prop where
 len:M.length=L.length
 k1:1≤k
 kp:k<p
 pl:p≤L.length
 tail:∀i,p-1≤i→atL M i=atL L i
 strict:Strict (M.take k)
 mem:∀x,x∈M.take k↔x∈L.take p
 last:atL M (k-1)=atL L (p-1)
theorem CompI.start {L:List Int} {k:Nat} (hs:Strict (L.take k)) (h1:1≤k) (hk:k<L.length) (he:atL L k=atL L (k-1)):CompI L L k (k+1):=by
 refine ⟨rfl,h1,by omega,by omega,fun _ _=>rfl,hs,fun x=>?_,by simp [he]⟩
 rw [take_snoc hk,List.mem_append,List.mem_singleton]
 constructor
 ·exact .inl
 ·rintro (h|h)
  ·exact h
  ·rw [h,he]
   have:k-1<L.length:=by omega
   rw [atL_eq this]
   exact List.mem_take_iff_getElem.2 ⟨k-1,by omega,rfl⟩
theorem CompI.same {L M:List Int} {k p:Nat} (h:CompI L M k p) (hp:p<L.length) (he:atL L p=atL L (p-1)):CompI L M k (p+1):=by
 refine ⟨h.len,h.k1,by have:=h.kp;omega,by omega,fun i hi=>h.tail i (by omega),h.strict,fun x=>?_,by rw [h.last];simp [he]⟩
 rw [h.mem,take_snoc hp,List.mem_append,List.mem_singleton]
 constructor
 ·exact .inl
 ·rintro (q|q)
  ·exact q
  ·rw [q,he]
   have hkp:=h.kp
   have:p-1<L.length:=by omega
   rw [atL_eq this]
   exact List.mem_take_iff_getElem.2 ⟨p-1,by omega,rfl⟩
theorem CompI.more {L M:List Int} {k p:Nat} (h:CompI L M k p) (hs:L.Pairwise (·≤·)) (hp:p<L.length) (he:atL L p≠atL L (p-1)):CompI L (M.set k (atL L p)) (k+1) (p+1):=by
 have hkp:=h.kp
 have hk1:=h.k1
 have hkM:k<M.length:=by rw [h.len];omega
 have hlt:atL L (p-1)<atL L p:=by
  have:=List.pairwise_iff_getElem.1 hs (p-1) p (by omega) hp (by omega)
  rw [←atL_eq (by omega:p-1<L.length),←atL_eq hp]at this
  omega
 refine ⟨by simpa using h.len,by omega,by omega,by omega,?_,?_,?_,?_⟩
 ·intro i hi
  have:atL (M.set k (atL L p)) i=atL M i:=by
   unfold atL
   simp only [List.getD_eq_getElem?_getD,List.getElem?_set]
   rw [if_neg (by omega)]
  rw [this]
  exact h.tail i (by omega)
 ·rw [take_setk hkM]
  refine strict_snoc h.strict fun a ha=>?_
  have hle:a≤atL M (k-1):=by
   obtain ⟨i,hi,rfl⟩:=List.mem_take_iff_getElem.1 ha
   by_cases e:i=k-1
   ·subst e;rw [atL_eq (by omega)];exact Int.le_refl _
   ·have:=List.pairwise_iff_getElem.1 h.strict i (k-1) (by simp;omega) (by simp;omega) (by omega)
    simp only [List.getElem_take]at this
    rw [atL_eq (by omega)];omega
  rw [h.last]at hle
  omega
 ·intro x
  rw [take_setk hkM,take_snoc hp,List.mem_append,List.mem_append,h.mem]
 ·have:atL (M.set k (atL L p)) (k+1-1)=atL L p:=by simp [atL,hkM]
  rw [this];rfl
set_option maxRecDepth 8000 in
theorem l23a (S:List Fr) (P:Res→Prop) (id n k0:Nat) (L:List Int) (sp:List DV) (cap:Option Nat) (h:Heap) (hl:h.lim≤id) (hn:n≤1000000) (hs:L.Pairwise (·≤·)) (hL:L.length=n) (hk0:k0≤n) :
  ∀(j p k:Nat) (M:List Int) (f:FEnv) (h':Heap),RowS id sp cap h h' M→CompI L M k p→k0<p→p+j=n→f 0=.sl id 1 0 n→f 3=.int .i64 k→f 4=.sl id 1 k0 (n-k0)→f 5=.int .i64 ((p-k0:Nat):Int) →
  (∀k' M' f' h'',f' 0=.sl id 1 0 n→f' 3=.int .i64 k'→RowS id sp cap h h'' M'→CompI L M' k' n→P (ret D 61 S .normal f' h'')) →
  P (run D 61 (.block 2::S) (.loop t23l0) f h'):=by
 intro j
 induction j with
 | zero =>
  intro p k M f h' R I hk hp h0 h3 h4 h5 hP
  have hpn:p=n:=by omega
  subst hpn
  rw [run_loop_of t23l0.eq_1]
  simp [h0,h3,h4,h5]
  exact hP k M _ h' (by simp [h0]) (by simp [h3]) R I
 | succ j ih =>
  intro p k M f h' R I hk hp h0 h3 h4 h5 hP
  have hkp:=I.kp
  have hML:M.length=n:=by rw [I.len,hL]
  have hpn:p<n:=by omega
  have hx:∀i,i<n→(M.map cInt++sp)[i]?=some (.int .i64 (atL M i)):=fun i hi=>by
   rw [List.getElem?_append_left (by simp;omega),List.getElem?_map,List.getElem?_eq_getElem (by omega),atL_eq (by omega)];rfl
  have hx1:=hx p hpn
  have hx0:=hx (p-1) (by omega)
  have hxk:=hx k (by omega)
  rw [I.tail p (by omega)]at hx1
  rw [I.tail (p-1) (by omega)]at hx0
  have g:=R.get
  have hlm:h'.lim≤id:=by rw [R.lim];exact hl
  have hnn:=get_some_lt g
  have hwf:=R.wf
  have hi1:indexAddrV 1 (.sl id 1 k0 (n-k0)) (.int .i64 ((p-k0:Nat):Int))=some (.ptr id 1 p 0):=by
   have:p-k0<n-k0:=by omega
   simp [indexAddrV,asI,this];omega
  have hw1:IntKind.i64.wrap (((p-k0:Nat):Int)-1)=((p-k0-1:Nat):Int):=by rw [wrap64 (by omega) (by omega)];omega
  have hw2:IntKind.i64.wrap (((p-k0:Nat):Int)+1)=((p+1-k0:Nat):Int):=by rw [wrap64 (by omega) (by omega)];omega
  have hw3:IntKind.i64.wrap ((k:Int)+1)=((k+1:Nat):Int):=by rw [wrap64 (by omega) (by omega)];omega
  have hi0:indexAddrV 1 (.sl id 1 k0 (n-k0)) (.int .i64 ((p-k0-1:Nat):Int))=some (.ptr id 1 (p-1) 0):=by
   have:p-k0-1<n-k0:=by omega
   simp [indexAddrV,asI,this];omega
  have hik:indexAddrV 1 (.sl id 1 0 n) (.int .i64 (k:Int))=some (.ptr id 1 k 0):=by
   have:k<n:=by omega
   simp [indexAddrV,asI,this]
  have hlt:((p-k0:Nat):Int)<((n-k0:Nat):Int):=by omega
  have hlt':p-k0<n-k0:=by omega
  rw [run_loop_of t23l0.eq_1]
  by_cases hc:atL L p=atL L (p-1)
  ·simp [h0,h3,h4,h5,g,hx1,hx0,hlm,hnn,hwf,hw1,hw2,hw3,hi1,hi0,hik,hlt,hlt',hc]
   generalize hF:upd _ 5 _=F
   exact ih (p+1) k M F h' R (I.same (by omega) hc) (by omega) (by omega) (by rw [←hF];simp [h0]) (by rw [←hF];simp [h3]) (by rw [←hF];simp [h4]) (by rw [←hF];simp) hP
  ·simp [h0,h3,h4,h5,g,hx1,hx0,hlm,hnn,hwf,hw1,hw2,hw3,hi1,hi0,hik,hlt,hlt',hc,hxk]
   generalize hF:upd _ 5 _=F
   have hrow:(M.map cInt++sp).set k (.int .i64 (atL L p))=(M.set k (atL L p)).map cInt++sp:=by
    rw [List.set_append_left _ _ (by simp;omega),List.map_set];rfl
   rw [hrow]
   have R':RowS id sp cap h (h'.set id (.arr 3 1 ((M.set k (atL L p)).map cInt++sp) cap)) (M.set k (atL L p)) :=
    ⟨by rw [get_set hwf hnn,if_pos rfl],R.n,R.lim,hwf.set,fun i hi=>by rw [get_set hwf hnn,if_neg hi];exact R.oth i hi⟩
   exact ih (p+1) (k+1) _ F _ R' (I.more hs (by omega) hc) (by omega) (by omega) (by rw [←hF];simp [h0]) (by rw [←hF];simp) (by rw [←hF];simp [h4]) (by rw [←hF];simp) hP
def CompD (id:Nat) (cap:Option Nat) (h:Heap) (L:List Int) (r:Res):Prop :=
 ∃ N sp' h'',fin [.t 2] r=some (.sl id 1 0 N.length,h'')∧RowS id sp' cap h h'' N∧Strict N∧(∀x,x∈N↔x∈L)∧N.length≤L.length
set_option maxRecDepth 8000 in
theorem l23b (id n:Nat) (L:List Int) (sp:List DV) (cap:Option Nat) (h:Heap) (hl:h.lim≤id) (hn:n≤1000000) (hs:L.Pairwise (·≤·)) (hL:L.length=n) (g:h.get id=some (.arr 3 1 (L.map cInt++sp) cap)) (wf:WF h) :
  ∀(j k:Nat) (f:FEnv),Strict (L.take k)→1≤k→k+j=n→f 0=.sl id 1 0 n→f 3=.int .i64 k →
  CompD id cap h L (run D 61 [.block 0,.seq t23k2] (.loop t23l1) f h):=by
 have R:RowS id sp cap h h L:=⟨g,rfl,rfl,wf,fun _ _=>rfl⟩
 have hnn:=get_some_lt g
 intro j
 induction j with
 | zero =>
  intro k f hst h1 hk h0 h3
  have hkn:k=n:=by omega
  subst hkn
  rw [run_loop_of t23l1.eq_1]
  simp [h0,h3,t23k2]
  refine ⟨L,sp,h,by rw [hL];rfl,R,by rw [←hL,List.take_length]at hst;exact hst,fun x=>Iff.rfl,Nat.le_refl _⟩
 | succ j ih =>
  intro k f hst h1 hk h0 h3
  have hkn:k<n:=by omega
  have hx:∀i,i<n→(L.map cInt++sp)[i]?=some (.int .i64 (atL L i)):=fun i hi=>by
   rw [List.getElem?_append_left (by simp;omega),List.getElem?_map,List.getElem?_eq_getElem (by omega),atL_eq (by omega)];rfl
  have hx1:=hx k hkn
  have hx0:=hx (k-1) (by omega)
  have hw1:IntKind.i64.wrap ((k:Int)-1)=((k-1:Nat):Int):=by rw [wrap64 (by omega) (by omega)];omega
  have hw3:IntKind.i64.wrap ((k:Int)+1)=((k+1:Nat):Int):=by rw [wrap64 (by omega) (by omega)];omega
  have hik:∀i:Nat,i<n→indexAddrV 1 (.sl id 1 0 n) (.int .i64 (i:Int))=some (.ptr id 1 i 0):=fun i hi=>by
   simp [indexAddrV,asI,hi]
  have hi1:=hik k hkn
  have hi0:=hik (k-1) (by omega)
  rw [run_loop_of t23l1.eq_1]
  by_cases hc:atL L k=atL L (k-1)
  ·have hsl:sliceV h 1 (.sl id 1 0 n) (some (.int .i64 (k:Int))) none=some (.sl id 1 k (n-k)):=by
    simp only [sliceV,g]
    rw [if_pos ⟨trivial,trivial,by simp;omega⟩]
    simp only [boundV,asI]
    rw [if_pos ⟨by omega,by omega⟩]
    simp
   simp [h0,h3,g,hx1,hx0,hl,hnn,wf,hw1,hw3,hi1,hi0,hkn,hc,hsl]
   generalize hF:upd _ 5 _=F
   refine l23a _ (CompD id cap h L) id n k L sp cap h hl hn hs hL (by omega) (n-(k+1)) (k+1) k L F h R (CompI.start hst h1 (by omega) hc) (by omega) (by omega) (by rw [←hF];simp [h0]) (by rw [←hF];simp [h3]) (by rw [←hF];simp) (by rw [←hF];simp<;>omega) fun k' M f' h'' a0 a3 R' I=>?_
   have g':=R'.get
   have hlm:h''.lim≤id:=by rw [R'.lim];exact hl
   have hkp:=I.kp
   have hML:M.length=n:=by rw [I.len,hL]
   have hsl1:sliceV h'' 1 (.sl id 1 0 n) (some (.int .i64 (k':Int))) none=some (.sl id 1 k' (n-k')):=by
    simp only [sliceV,g']
    rw [if_pos ⟨trivial,trivial,by simp;omega⟩]
    simp only [boundV,asI]
    rw [if_pos ⟨by omega,by omega⟩]
    simp
   have hcl:=clearV_sl (z:=.int .i64 0) (len:=n-k') (off:=k') g' (by simp;omega) hlm (by omega)
   have hwf:=R'.wf
   have hnn':=get_some_lt g'
   have hrow:splice (M.map cInt++sp) (List.replicate (n-k') (.int .i64 0)) k'=(M.take k').map cInt++(List.replicate (n-k') (.int .i64 0)++sp):=by
    unfold splice
    have e1:(M.map cInt++sp).take k'=(M.take k').map cInt:=by
     rw [List.take_append_of_le_length (by simp;omega),List.map_take]
    have e2:(M.map cInt++sp).drop (k'+(n-k'))=sp:=by
     have:k'+(n-k')=(M.map cInt).length:=by simp;omega
     rw [this,List.drop_left]
    simp only [List.length_replicate]
    rw [e1,e2,List.append_assoc]
   obtain ⟨X,hX⟩:∃ X,(M.take k').map cInt++(List.replicate (n-k') (.int .i64 0)++sp)=X:=⟨_,rfl⟩
   have hXl:n≤X.length:=by rw [←hX];simp;omega
   rw [hrow,hX]at hcl
   have hsl2:∀H:Heap,∀xs c,H.get id=some (.arr 3 1 xs c)→n≤xs.length→sliceV H 1 (.sl id 1 0 n) none (some (.int .i64 (k':Int)))=some (.sl id 1 0 k'):=fun H xs c hg hlen=>by
    simp only [sliceV,hg]
    rw [if_pos ⟨trivial,trivial,by omega⟩]
    simp only [boundV,asI]
    rw [if_pos ⟨by omega,by omega⟩]
    simp
   have hg2:(h''.set id (.arr 3 1 (X) cap)).get id=some (.arr 3 1 (X) cap):=by
    rw [get_set hwf hnn',if_pos rfl]
   have hs2:=hsl2 _ _ _ hg2 hXl
   simp [t23k0,a0,a3,hsl1,hcl,on_clear,hs2]
   refine ⟨M.take k',List.replicate (n-k') (.int .i64 0)++sp,(h''.set id (.arr 3 1 (X) cap)),?_,⟨by rw [hX];exact hg2,R'.n,R'.lim,hwf.set,fun i hi=>by rw [get_set hwf hnn',if_neg hi];exact R'.oth i hi⟩,I.strict,fun x=>?_,by simp;omega⟩
   ·have:(M.take k').length=k':=by simp;omega
    rw [this];rfl
   ·rw [I.mem,←hL,List.take_length]
  ·have hlt:atL L (k-1)<atL L k:=by
    have:=List.pairwise_iff_getElem.1 hs (k-1) k (by omega) (by omega) (by omega)
    rw [←atL_eq (by omega:k-1<L.length),←atL_eq (by omega:k<L.length)]at this
    omega
   have hst':Strict (L.take (k+1)):=by
    rw [take_snoc (by omega)]
    refine strict_snoc hst fun a ha=>?_
    obtain ⟨i,hi,rfl⟩:=List.mem_take_iff_getElem.1 ha
    have hle:L[i]≤atL L (k-1):=by
     rw [atL_eq (by omega)]
     by_cases e:i=k-1
     ·subst e;exact Int.le_refl _
     ·exact List.pairwise_iff_getElem.1 hs i (k-1) (by omega) (by omega) (by omega)
    omega
   simp [h0,h3,g,hx1,hx0,hl,hnn,wf,hw1,hw3,hi1,hi0,hkn,hc,t23k1]
   generalize hF:upd _ 3 _=F
   exact ih (k+1) F hst' (by omega) (by omega) (by rw [←hF];simp [h0]) (by rw [←hF];simp)
set_option maxRecDepth 8000 in
theorem q23 (id:Nat) (L:List Int) (sp:List DV) (cap:Option Nat) (h:Heap) (hl:h.lim≤id) (hn:L.length≤1000000) (hs:L.Pairwise (·≤·)) (g:h.get id=some (.arr 3 1 (L.map cInt++sp) cap)) (wf:WF h) :
  ∃ N sp' h'',fc D 23 [.sl id 1 0 L.length] h=some (.sl id 1 0 N.length,h'')∧RowS id sp' cap h h'' N∧Strict N∧(∀x,x∈N↔x∈L)∧N.length≤L.length:=by
 rw [e23,goRun_eq _ _ _ _ (by simp [t23])]
 simp [t23]
 by_cases h2:L.length<2
 ·have h2':(L.length:Int)<2:=by omega
  simp [h2,h2']
  refine ⟨L,sp,h,⟨rfl,rfl⟩,⟨g,rfl,rfl,wf,fun _ _=>rfl⟩,?_,fun x=>Iff.rfl,Nat.le_refl _⟩
  match L,h2 with
  | [],_=>exact List.Pairwise.nil
  | [a],_=>exact List.pairwise_singleton ..
 ·have h2':¬(L.length:Int)<2:=by omega
  simp [h2,h2']
  generalize hF:upd _ 3 _=F
  refine l23b id L.length L sp cap h hl hn hs rfl g wf (L.length-1) 1 F ?_ (Nat.le_refl _) (by omega) (by rw [←hF];simp) (by rw [←hF];simp)
  match L with
  | []=>simp [Strict]
  | a::r=>simp [Strict]
end Go.Dm.Tc
/-
TreesTells: the plain law: a path is the same with more room;linked is linked both ways round.
-/
namespace Go.Dm.Tc
def pathO (p:List Int):Nat→Int→Option (List Int)
 | 0,_=>none
 | n+1,b=>if 0≤b∧b<p.length then (if atL p b.toNat=-1 then some [b] else (pathO p n (atL p b.toNat)).map (b::·)) else none
def pathP (p:List Int) (n:Nat) (b:Int):List Int:=(pathO p n b).getD []
theorem pathO_step {p:List Int} {n:Nat} {b:Int} {l:List Int} (h:pathO p (n+1) b=some l):0≤b∧b<p.length∧((atL p b.toNat=-1∧l=[b])∨(atL p b.toNat≠-1∧∃ r,pathO p n (atL p b.toNat)=some r∧l=b::r)):=by
 rw [pathO]at h
 split at h
 ·rename_i hb
  refine ⟨hb.1,hb.2,?_⟩
  split at h
  ·rename_i h1;left;exact ⟨h1,(Option.some.inj h).symm⟩
  ·rename_i h1
   right
   refine ⟨h1,?_⟩
   cases hr:pathO p n (atL p b.toNat) with
   | none=>rw [hr]at h;cases h
   | some r=>rw [hr]at h;exact ⟨r,rfl,(Option.some.inj h).symm⟩
 ·cases h
theorem pathO_low {p:List Int}:∀{n:Nat} {b:Int} {l:List Int},pathO p n b=some l→pathO p l.length b=some l∧l.length≤n∧l≠[]
 | 0,b,l,h=>by simp [pathO]at h
 | n+1,b,l,h=>by
  obtain ⟨h0,h1,hs⟩:=pathO_step h
  rcases hs with ⟨e,rfl⟩|⟨e,r,hr,rfl⟩
  ·refine ⟨?_,by simp,by simp⟩
   simp [pathO,h0,h1,e]
  ·obtain ⟨i1,i2,_⟩:=pathO_low hr
   refine ⟨?_,by simp;omega,by simp⟩
   simp [pathO,h0,h1,e,i1]
theorem nodup_room:∀{n:Nat} {l:List Int},l.Nodup→(∀x∈l,0≤x∧x<n)→l.length≤n
 | 0,[],_,_=>Nat.le_refl _
 | 0,a::l,_,h=>by have:=h a (List.mem_cons_self ..);omega
 | n+1,l,hd,h=>by
  have h1:(l.erase (n:Int)).length≤n:=nodup_room (hd.erase _) fun x hx=>by
   have hm:=(hd.mem_erase_iff).1 hx
   have:=h x hm.2
   have:=hm.1
   omega
  rw [List.length_erase]at h1
  split at h1<;>omega
theorem pathP_len (p:List Int) (n:Nat) (b:Int):(pathP p n b).length≤n:=by
 unfold pathP
 cases h:pathO p n b with
 | none=>exact Nat.zero_le _
 | some l=>exact (pathO_low h).2.1
def belowP (p:List Int) (x:Int):List Int:=((List.range p.length).filter fun v:Nat=>decide (x∈pathP p p.length v)).map (fun v:Nat=>(v:Int))
def gMay (m:Int) (l:Int×Int):Bool:=decide (0≤l.1∧l.1<m∧0≤l.2∧l.2<m∧l.1≠l.2)
def gLink (m:Int) (L:List (Int×Int)) (a b:Int):Bool:=L.any fun l=>gMay m l && (decide (l.1=a∧l.2=b) || decide (l.1=b∧l.2=a))
def gNear (m:Int) (b:Int):List (Int×Int)→List Int
 | []=>[]
 | l::r=>if gMay m l then (if l.1=b then l.2::gNear m b r else if l.2=b then l.1::gNear m b r else gNear m b r) else gNear m b r
theorem mem_gNear (m:Int) (a b:Int):∀L:List (Int×Int),(b∈gNear m a L↔gLink m L a b=true)
 | []=>by simp [gNear,gLink]
 | l::r=>by
  have ih:=mem_gNear m a b r
  have hl:gLink m (l::r) a b=((gMay m l && (decide (l.1=a∧l.2=b) || decide (l.1=b∧l.2=a))) || gLink m r a b):=rfl
  rw [hl,gNear]
  by_cases hm:gMay m l=true
  ·have hne:l.1≠l.2:=by have:=of_decide_eq_true hm;exact this.2.2.2.2
   rw [if_pos hm]
   by_cases h1:l.1=a
   ·rw [if_pos h1]
    have h2:¬(l.1=b∧l.2=a):=fun e=>hne (h1.trans e.2.symm)
    simp [hm,h1,ih]
    constructor
    ·rintro (rfl|h)
     ·exact .inl (.inl rfl)
     ·exact .inr h
    ·rintro ((rfl|⟨e1,e2⟩)|h)
     ·exact .inl rfl
     ·exact absurd (h1.trans e2.symm) hne
     ·exact .inr h
   ·rw [if_neg h1]
    by_cases h2:l.2=a
    ·rw [if_pos h2]
     simp [hm,h1,h2,ih]
     exact ⟨fun h=>h.imp Eq.symm id,fun h=>h.imp Eq.symm id⟩
    ·rw [if_neg h2]
     simp [hm,h1,h2,ih]
  ·rw [if_neg hm]
   simp [hm,ih]
def gGood (m:Int) (L:List (Int×Int)) (p:List Int) (v:Nat):Bool:=(decide (atL p v=-1) || gLink m L (atL p v) v) && decide (pathP p p.length v≠[])
def rootsP (p:List Int):Int:=((p.filter fun x=>decide (x=-1)).length:Int)
def spansP (m:Int) (L:List (Int×Int)) (p:List Int):Bool:=(List.range p.length).all (gGood m L p) && decide ((p.length:Int)=m) && decide (rootsP p=1)
end Go.Dm.Tc
/-
Graphs: whom a broker is near;are two linked.
-/
namespace Go.Dm.Tc
def ePair (l:Int×Int):DV:=.agg [.int .i64 l.1,.int .i64 l.2]
theorem plain_pair (x:Int×Int):Flat 20 (ePair x)∧Unl 22 (ePair x):=plain_id ⟨x.1,x.2⟩
theorem iav0 (id sz:Nat) (k:IntKind):indexArrV 2 1 (.ptr id sz 0 0) (.int k 0)=some (.ptr id sz 0 0):=rfl
theorem iav1 (id sz:Nat) (k:IntKind):indexArrV 2 1 (.ptr id sz 0 0) (.int k 1)=some (.ptr id sz 0 1):=rfl
theorem s24 (m b:Int) (x:DV):pcF D t24 [.agg [.int .i64 m,x],.int .i64 b]=some (.bool (decide (0≤b∧b<m))):=by
 unfold pcF
 rw [goRun_eq _ _ _ _ (by simp [t24])]
 by_cases h:0≤b<;>by_cases h':b<m<;>simp [t24,h,h']
theorem s21 (t:Bool) (m:Int) (L:List (Int×Int)) (l:Int×Int):pcF D t21 [.agg [.int .i64 m,eL t 2 ePair L],ePair l]=some (.bool (gMay m l)):=by
 obtain ⟨a,b⟩:=l
 have hf:∀h,resolve true h 199 (eL t 2 ePair L)=some (eL t 2 ePair L):=fun h=>flat_eL _ _ _ _ true h 199 (by decide)
 unfold pcF
 rw [goRun_eq _ _ _ _ (by simp [t21])]
 by_cases h1:0≤a∧a<m<;>by_cases h2:0≤b∧b<m<;>by_cases h3:a=b<;>simp [t21,ePair,e24,s24,gMay,h1,h2,h3,hf,iav0,iav1]
set_option maxRecDepth 8000 in
theorem l19 (P:Res→Prop) (t:Bool) (m b:Int) (L:List (Int×Int)) (hL:L.length≤1000000) (h0:Heap) (g0:h0.get 0=some (.arr 27 2 [.agg [.int .i64 m,eL t 2 ePair L]] (some 1))) (hlim:h0.lim=0) :
  ∀(rest:List (Int×Int)) (acc:List Int) (i:Nat) (f:FEnv) (h:Heap),L.drop i=rest→acc.length≤i→f 1=.int .i64 b→f 2=.ptr 0 2 0 0→f 9=eL t 2 ePair L→f 10=.int .i64 L.length→f 11=.int .i64 i→OwnR 1 h (f 5) 3 1 (acc.map cInt)→Ext 1 h0 h →
  (∀F H,OwnR 1 H (F 5) 3 1 ((acc++gNear m b rest).map cInt)→Ext 1 h0 H→P (run D 45 [] t19k0 F H)) →
  P (run D 45 [.block 0,.seq t19k0] (.loop t19l0) f h):=by
 intro rest
 induction rest with
 | nil =>
  intro acc i f h hd ha h1 h2 h9 h10 h11 ho hx hfin
  have hi:=drop_nil hd
  have:¬(i<L.length):=by omega
  rw [run_loop_of t19l0.eq_1]
  simp [h10,h11,this]
  exact hfin _ _ (by simpa [gNear] using ho) hx
 | cons l rest ih =>
  intro acc i f h hd ha h1 h2 h9 h10 h11 ho hx hfin
  obtain ⟨hi,he,hd'⟩:=drop_at hd
  have hlH:h.lim=0:=hx.lim.trans hlim
  have hg0:=(hx.get 0 (by decide)).trans g0
  have hnh:=hx.le
  have n0:¬0=h.n:=by omega
  have hw:IntKind.i64.wrap ((i:Int)+1)=(i:Int)+1:=wrap64 (by omega) (by omega)
  have hf:∀h,resolve true h 199 (eL t 2 ePair L)=some (eL t 2 ePair L):=fun h=>flat_eL _ _ _ _ true h 199 (by decide)
  obtain ⟨u,v⟩:=l
  have hm:pcF D t21 [.agg [.int .i64 m,eL t 2 ePair L],.agg [.int .i64 u,.int .i64 v]]=some (.bool (gMay m (u,v))):=s21 t m L (u,v)
  rw [run_loop_of t19l0.eq_1]
  by_cases hc:gMay m (u,v)=true
  ·by_cases hu:u=b
   ·have hN:gNear m b ((u,v)::rest)=v::gNear m b rest:=by rw [gNear,if_pos hc,if_pos hu]
    rw [hN,List.append_cons]at hfin
    subst hu
    simp [h1,h2,h9,h10,h11,hi,he,hlH,hg0,n0,ePair,e21,hm,hc,hf,iav0,iav1]
    generalize hA:appendD _ _ _ _ _ _=A
    obtain ⟨w',h',rfl,ho',hx',_⟩:=ho.push.push.append hx.push.push.wf (hx.push.push.le) (by simp [hlH]) hA (by simp;omega) (by decide)
    clear hA
    simp [h11,hw]
    generalize hF:upd _ 11 _=F
    refine ih (acc++[v]) (i+1) F h' hd' (by simp;omega) (by rw [←hF];simp [h1]) (by rw [←hF];simp [h2]) (by rw [←hF];simp [h9]) (by rw [←hF];simp [h10]) (by rw [←hF];simp) (by rw [←hF];simp;simpa [cInt] using ho') (hx.push.push.trans hx') hfin
   ·by_cases hv:v=b
    ·have hN:gNear m b ((u,v)::rest)=u::gNear m b rest:=by rw [gNear,if_pos hc,if_neg hu,if_pos hv]
     rw [hN,List.append_cons]at hfin
     subst hv
     simp [h1,h2,h9,h10,h11,hi,he,hlH,hg0,n0,ePair,e21,hm,hc,hf,iav0,iav1,hu]
     generalize hA:appendD _ _ _ _ _ _=A
     obtain ⟨w',h',rfl,ho',hx',_⟩:=ho.push.push.append hx.push.push.wf (hx.push.push.le) (by simp [hlH]) hA (by simp;omega) (by decide)
     clear hA
     simp [h11,hw]
     generalize hF:upd _ 11 _=F
     refine ih (acc++[u]) (i+1) F h' hd' (by simp;omega) (by rw [←hF];simp [h1]) (by rw [←hF];simp [h2]) (by rw [←hF];simp [h9]) (by rw [←hF];simp [h10]) (by rw [←hF];simp) (by rw [←hF];simp;simpa [cInt] using ho') (hx.push.push.trans hx') hfin
    ·have hN:gNear m b ((u,v)::rest)=gNear m b rest:=by rw [gNear,if_pos hc,if_neg hu,if_neg hv]
     rw [hN]at hfin
     simp [h1,h2,h9,h10,h11,hi,he,hlH,hg0,n0,ePair,e21,hm,hc,hf,iav0,iav1,hu,hv,hw]
     generalize hF:upd _ 11 _=F
     exact ih acc (i+1) F _ hd' (by omega) (by rw [←hF];simp [h1]) (by rw [←hF];simp [h2]) (by rw [←hF];simp [h9]) (by rw [←hF];simp [h10]) (by rw [←hF];simp) (by rw [←hF];simp;exact ho.push) hx.push hfin
  ·have hN:gNear m b ((u,v)::rest)=gNear m b rest:=by rw [gNear,if_neg hc]
   rw [hN]at hfin
   simp [h1,h2,h9,h10,h11,hi,he,hlH,hg0,n0,ePair,e21,hm,hc,hf,hw]
   generalize hF:upd _ 11 _=F
   exact ih acc (i+1) F _ hd' (by omega) (by rw [←hF];simp [h1]) (by rw [←hF];simp [h2]) (by rw [←hF];simp [h9]) (by rw [←hF];simp [h10]) (by rw [←hF];simp) (by rw [←hF];simp;exact ho.push) hx.push hfin
theorem q27_nsl (h:Heap):fc D 27 [.nsl,.int .i64 0,.int .i64 0] h=some (.tup [],h):=by
 rw [e27,goRun_eq _ _ _ _ (by simp [t27])]
 simp [t27]
 generalize hF:upd _ 6 _=F
 have h2:F 2=.int .i64 0:=by rw [←hF];simp
 have h6:F 6=.int .i64 1:=by rw [←hF];simp
 rw [run_loop_of t27l1.eq_1]
 simp [h2,h6]
 rfl
theorem q25_nsl (h:Heap) (x:Int):fc D 25 [.nsl,.int .i64 0,.int .i64 0,.int .i64 x] h=some (.tup [],h):=by
 have hw:IntKind.i64.wrap (0:Int)=0:=rfl
 rw [e25,goRun_eq _ _ _ _ (by simp [t25])]
 simp [t25]
 rw [run_loop_of t25l0.eq_1]
 simp [hw,q27_nsl]
 rfl
theorem q22_nsl (h:Heap):fc D 22 [.nsl] h=some (.tup [],h):=by
 have hb:pcF D t26 [.int .u64 0]=some (.int .i64 (lenN 0)):=s26 0 (by decide)
 rw [e22,goRun_eq _ _ _ _ (by simp [t22])]
 simp [t22,e26,hb,q25_nsl]
 rfl
theorem q23_nsl (h:Heap):fc D 23 [.nsl] h=some (.nsl,h):=by
 rw [e23,goRun_eq _ _ _ _ (by simp [t23])]
 simp [t23]
set_option maxRecDepth 8000 in
theorem s19 (t:Bool) (m b:Int) (L:List (Int×Int)) (hL:L.length≤1000000) (hn:(gNear m b L).length≤12):∃ N,pcF D t19 [.agg [.int .i64 m,eL t 2 ePair L],.int .i64 b]=some (eL false 1 cInt N)∧Strict N∧(∀x,x∈N↔x∈gNear m b L)∧N.length≤12:=by
 unfold pcF
 rw [goRun_eq _ _ _ _ (by simp [t19])]
 simp [t19]
 generalize hF:upd _ 11 _=F
 generalize hH:Heap.push _ _=H
 refine l19 (fun r=>∃ N,pcOut (fin [.t 4] r)=some (eL false 1 cInt N)∧Strict N∧(∀x,x∈N↔x∈gNear m b L)∧N.length≤12) t m b L hL H (by rw [←hH];simp) (by rw [←hH];simp) L [] 0 F H rfl (Nat.zero_le _) (by rw [←hF];simp) (by rw [←hF];simp) (by rw [←hF];simp) (by rw [←hF];simp) (by rw [←hF];simp) (.nil (by rw [←hF];simp) rfl) (.refl (by rw [←hH];simp) (by rw [←hH];simp)) fun F K o x=>?_
 rw [List.nil_append]at o
 cases o with
 | nil hv hx =>
  have hx':gNear m b L=[]:=by simpa using hx
  refine ⟨[],?_,List.Pairwise.nil,fun y=>by rw [hx'],by simp⟩
  simp [t19k0,hv,q22_nsl,q23_nsl,turn]
  rfl
 | arr id sp cap hv hg hlim hlo =>
  obtain ⟨K2,h2,R2⟩:=q22 id sp cap K (gNear m b L) hg hlim hn x.wf
  have hsl:=(isort_perm (gNear m b L)).length_eq
  obtain ⟨N,sp',K3,h3,R3,sN,mN,lN⟩:=q23 id (isort (gNear m b L)) sp cap K2 (by rw [R2.lim];exact hlim) (by omega) (isort_sorted _) R2.get R2.wf
  rw [hsl]at h3
  rw [List.length_map]at hv
  refine ⟨N,?_,sN,fun y=>by rw [mN,(isort_perm _).mem_iff],by omega⟩
  have w:OwnR 1 K3 (.sl id 1 0 N.length) 3 1 (N.map cInt):=.arr id sp' cap (by simp) R3.get (by rw [R3.lim,R2.lim];exact hlim) hlo
  have hout:=w.out (k:=22) (fun y _=>(plain_cint y).1.mono (by decide)) (fun y _=>(plain_cint y).2) (by decide)
  simp [t19k0,hv,h2,h3,turn,-pcOut_some]
  exact hout
theorem s8 (t:Bool) (m a b:Int) (L:List (Int×Int)) (hL:L.length≤1000000) (hn:(gNear m a L).length≤12):pcF D t8 [.agg [.int .i64 m,eL t 2 ePair L],.int .i64 a,.int .i64 b]=some (.bool (gLink m L a b)):=by
 obtain ⟨N,hN,_,mN,lN⟩:=s19 t m a L hL hn
 have hC:=s18 false N b (by omega)
 have hc:N.contains b=gLink m L a b:=by
  rw [Bool.eq_iff_iff,List.contains_iff_mem,mN,mem_gNear]
 rw [hc]at hC
 have hf:∀h,resolve true h 199 (eL t 2 ePair L)=some (eL t 2 ePair L):=fun h=>flat_eL _ _ _ _ true h 199 (by decide)
 unfold pcF
 rw [goRun_eq _ _ _ _ (by simp [t8])]
 simp [t8,e19,hN,hf,e18,hC]
end Go.Dm.Tc
/-
Trees: the path of a broker up to the root,its depth,who is below;do parents span a graph.
-/
namespace Go.Dm.Tc
theorem atL_at {p:List Int} {b:Int} (h0:0≤b) (h1:b<p.length):∃ h:b.toNat<p.length,p[b.toNat]=atL p b.toNat:=⟨by omega,(atL_eq (by omega)).symm⟩
set_option maxRecDepth 8000 in
theorem l10 (t:Bool) (p:List Int) (hp:p.length≤1000000) :
  ∀(n:Nat) (acc:List Int) (b:Int) (f:FEnv) (h:Heap),acc.length+n=p.length→f 0=eL t 1 cInt p→f 1=.int .i64 b→OwnR 0 h (f 5) 3 1 (acc.map cInt)→h.lim=0→WF h →
  pcOut (fin [.t 4] (run D 35 [.block 0,.seq t10k0] (.loop t10l0) f h))=some (eL false 1 cInt (match pathO p n b with|some l=>acc++l|none=>[])):=by
 intro n
 induction n with
 | zero =>
  intro acc b f h ha h0 h1 ho hlim wf
  have hlen:=ho.lenV
  have hae:acc.length=p.length:=by omega
  rw [run_loop_of t10l0.eq_1]
  by_cases hb:0≤b<;>by_cases hb':b<p.length<;>simp [h0,h1,hb,hb',hlen,hae,pathO,t10k0]
  all_goals rfl
 | succ n ih =>
  intro acc b f h ha h0 h1 ho hlim wf
  have hlen:=ho.lenV
  have hae:acc.length<p.length:=by omega
  rw [run_loop_of t10l0.eq_1]
  by_cases hb:0≤b∧b<p.length
  ·obtain ⟨hi,hg⟩:=atL_at hb.1 hb.2
   rw [pathO,if_pos hb]
   obtain ⟨hb0,hb1⟩:=hb
   simp [h0,h1,hb0,hb1,hlen,hae]
   generalize hA:appendD _ _ _ _ _ _=A
   obtain ⟨w,K,rfl,ho',hx',_⟩:=ho.push.append (lo:=0) wf.push (Nat.zero_le _) (by simp [hlim]) hA (by simp;omega) (by decide)
   clear hA
   have hKl:K.lim=0:=by rw [hx'.lim];simp [hlim]
   have hKw:=hx'.wf
   have hia:indexAddrV 1 (eL t 1 cInt p) (.int .i64 b)=some (.iptr t (ecells 1 (cInt (atL p b.toNat))) 0):=by
    rw [indexAddrV_eLm t 1 cInt p .i64 b hb0,List.getElem?_eq_getElem hi,hg];rfl
   by_cases hr:atL p b.toNat=-1
   ·have ho'':OwnR 0 K w 3 1 ((acc++[b]).map cInt):=by simpa [cInt] using ho'
    have hout:=ho''.out (k:=22) (fun y _=>(plain_cint y).1.mono (by decide)) (fun y _=>(plain_cint y).2) (by decide)
    simp [h0,h1,hia,hr,cInt,-pcOut_some]
    exact hout
   ·simp [h0,h1,hia,hr,cInt]
    generalize hF:upd _ 1 _=F
    rw [ih (acc++[b]) (atL p b.toNat) F K (by simp;omega) (by rw [←hF];simp [h0]) (by rw [←hF];simp) (by rw [←hF];simp;simpa [cInt] using ho') hKl hKw]
    cases pathO p n (atL p b.toNat)<;>simp
  ·rw [pathO,if_neg hb]
   by_cases hb0:0≤b
   ·have hb1:¬b<p.length:=fun h=>hb ⟨hb0,h⟩
    simp [h0,h1,hb0,hb1,hlen,hae,t10k0]
    rfl
   ·simp [h0,h1,hb0,hlen,hae,t10k0]
    rfl
theorem s10 (t:Bool) (p:List Int) (b:Int) (hp:p.length≤1000000):pcF D t10 [eL t 1 cInt p,.int .i64 b]=some (eL false 1 cInt (pathP p p.length b)):=by
 unfold pcF
 rw [goRun_eq _ _ _ _ (by simp [t10])]
 simp [t10,-pcOut_some]
 generalize hF:upd _ 5 _=F
 rw [l10 t p hp p.length [] b F _ (by simp) (by rw [←hF];simp) (by rw [←hF];simp) (.nil (by rw [←hF];simp) rfl) (by simp) (by simp)]
 unfold pathP
 cases pathO p p.length b<;>rfl
theorem s11 (t:Bool) (p:List Int) (b:Int) (hp:p.length≤1000000):pcF D t11 [eL t 1 cInt p,.int .i64 b]=some (.int .i64 ((pathP p p.length b).length-1)):=by
 have hl:=pathP_len p p.length b
 have hw:IntKind.i64.wrap (((pathP p p.length b).length:Int)-1)=((pathP p p.length b).length:Int)-1:=wrap64 (by omega) (by omega)
 have hf:∀h,resolve true h 199 (eL t 1 cInt p)=some (eL t 1 cInt p):=fun h=>flat_eL _ _ _ _ true h 199 (by decide)
 unfold pcF
 rw [goRun_eq _ _ _ _ (by simp [t11])]
 simp [t11,e10,s10 t p b hp,hf,hw]
def belowA (p:List Int) (x:Int) (i:Nat):List Int:=((List.range i).filter fun v:Nat=>decide (x∈pathP p p.length v)).map (fun v:Nat=>(v:Int))
theorem belowA_succ (p:List Int) (x:Int) (i:Nat):belowA p x (i+1)=if x∈pathP p p.length i then belowA p x i++[(i:Int)] else belowA p x i:=by
 unfold belowA
 rw [List.range_succ,List.filter_append,List.map_append]
 by_cases h:x∈pathP p p.length i<;>simp [h]
theorem belowA_len (p:List Int) (x:Int) (i:Nat):(belowA p x i).length≤i:=by
 unfold belowA
 rw [List.length_map]
 exact Nat.le_trans (List.length_filter_le ..) (by simp)
set_option maxRecDepth 8000 in
theorem l12 (t:Bool) (p:List Int) (x:Int) (hp:p.length≤1000000) :
  ∀(n i:Nat) (f:FEnv) (h:Heap),i+n=p.length→f 0=eL t 1 cInt p→f 1=.int .i64 x→f 8=.int .i64 p.length→f 9=.int .i64 i→OwnR 0 h (f 5) 3 1 ((belowA p x i).map cInt)→h.lim=0→WF h →
  pcOut (fin [.t 4] (run D 23 [.block 0,.seq t12k0] (.loop t12l0) f h))=some (eL false 1 cInt (belowP p x)):=by
 intro n
 induction n with
 | zero =>
  intro i f h hi h0 h1 h8 h9 ho hlim wf
  have e1:i=p.length:=by omega
  subst e1
  rw [run_loop_of t12l0.eq_1]
  have hout:=ho.out (k:=22) (fun y _=>(plain_cint y).1.mono (by decide)) (fun y _=>(plain_cint y).2) (by decide)
  simp [h8,h9,t12k0,-pcOut_some]
  exact hout
 | succ n ih =>
  intro i f h hi h0 h1 h8 h9 ho hlim wf
  have e1:i<p.length:=by omega
  have hl:=pathP_len p p.length i
  have hC:=s18 false (pathP p p.length i) x (by omega)
  have hP:=s10 t p i hp
  have hw:IntKind.i64.wrap ((i:Int)+1)=(i:Int)+1:=wrap64 (by omega) (by omega)
  have hs:=belowA_succ p x i
  have hbl:=belowA_len p x i
  rw [run_loop_of t12l0.eq_1]
  by_cases hc:x∈pathP p p.length i
  ·rw [if_pos hc]at hs
   simp [h0,h1,h8,h9,e1,e10,hP,e18,hC,hc]
   generalize hA:appendD _ _ _ _ _ _=A
   obtain ⟨w,K,rfl,ho',hx',_⟩:=ho.push.append (lo:=0) wf.push (Nat.zero_le _) (by simp [hlim]) hA (by simp;omega) (by decide)
   clear hA
   have hKl:K.lim=0:=by rw [hx'.lim];simp [hlim]
   simp [h9,hw]
   generalize hF:upd _ 9 _=F
   exact ih (i+1) F K (by omega) (by rw [←hF];simp [h0]) (by rw [←hF];simp [h1]) (by rw [←hF];simp [h8]) (by rw [←hF];simp) (by rw [←hF,hs];simp;simpa [cInt] using ho') hKl hx'.wf
  ·rw [if_neg hc]at hs
   simp [h0,h1,h8,h9,e1,e10,hP,e18,hC,hc,hw]
   generalize hF:upd _ 9 _=F
   exact ih (i+1) F h (by omega) (by rw [←hF];simp [h0]) (by rw [←hF];simp [h1]) (by rw [←hF];simp [h8]) (by rw [←hF];simp) (by rw [←hF,hs];simp;exact ho) hlim wf
theorem s12 (t:Bool) (p:List Int) (x:Int) (hp:p.length≤1000000):pcF D t12 [eL t 1 cInt p,.int .i64 x]=some (eL false 1 cInt (belowP p x)):=by
 unfold pcF
 rw [goRun_eq _ _ _ _ (by simp [t12])]
 simp [t12,-pcOut_some]
 generalize hF:upd _ 9 _=F
 exact l12 t p x hp p.length 0 F _ (by simp) (by rw [←hF];simp) (by rw [←hF];simp) (by rw [←hF];simp) (by rw [←hF];simp) (.nil (by rw [←hF];simp) rfl) (by simp) (by simp)
def rootsA (p:List Int) (i:Nat):Nat:=((p.take i).filter fun x=>decide (x=-1)).length
theorem rootsA_succ (p:List Int) (i:Nat) (h:i<p.length):rootsA p (i+1)=if atL p i=-1 then rootsA p i+1 else rootsA p i:=by
 unfold rootsA
 rw [take_snoc h,List.filter_append,List.length_append]
 by_cases hc:atL p i=-1<;>simp [hc]
theorem rootsA_le (p:List Int) (i:Nat):rootsA p i≤i:=by
 unfold rootsA
 exact Nat.le_trans (List.length_filter_le ..) (by simp;omega)
theorem spans_bad {m:Int} {L:List (Int×Int)} {p:List Int} {i:Nat} (h:i<p.length) (hb:gGood m L p i=false):spansP m L p=false:=by
 unfold spansP
 have:(List.range p.length).all (gGood m L p)=false:=by
  rw [List.all_eq_false]
  exact ⟨i,List.mem_range.2 h,by simp [hb]⟩
 rw [this];simp
theorem spans_end {m:Int} {L:List (Int×Int)} {p:List Int} (h:∀v<p.length,gGood m L p v=true):spansP m L p=(decide ((p.length:Int)=m) && decide ((rootsA p p.length:Int)=1)):=by
 unfold spansP
 have:(List.range p.length).all (gGood m L p)=true:=by
  rw [List.all_eq_true]
  exact fun v hv=>h v (List.mem_range.1 hv)
 rw [this,Bool.true_and];unfold rootsP rootsA;rw [List.take_of_length_le (Nat.le_refl _)]
set_option maxRecDepth 8000 in
theorem l13 (t tp:Bool) (m:Int) (L:List (Int×Int)) (p:List Int) (hp:p.length≤1000000) (hL:L.length≤1000000) (hn:∀a,(gNear m a L).length≤12) (h:Heap) (g0:h.get 0=some (.arr 27 2 [.agg [.int .i64 m,eL t 2 ePair L]] (some 1))) (hlim:h.lim=0) :
  ∀(n i:Nat) (f:FEnv),i+n=p.length→(∀v<i,gGood m L p v=true)→f 1=eL tp 1 cInt p→f 2=.ptr 0 2 0 0→f 5=.int .i64 (rootsA p i)→f 8=eL tp 1 cInt p→f 9=.int .i64 p.length→f 10=.int .i64 i →
  pcOut (fin [.t 4] (run D 40 [.block 0,.seq t13k0] (.loop t13l0) f h))=some (.bool (spansP m L p)):=by
 intro n
 induction n with
 | zero =>
  intro i f hi hv h1 h2 h5 h8 h9 h10
  have e1:i=p.length:=by omega
  subst e1
  rw [run_loop_of t13l0.eq_1,spans_end hv]
  by_cases c1:(p.length:Int)=m<;>by_cases c2:(rootsA p p.length:Int)=1<;>simp [h1,h2,h5,h9,h10,g0,hlim,t13k0,c1,c2]
 | succ n ih =>
  intro i f hi hv h1 h2 h5 h8 h9 h10
  have e1:i<p.length:=by omega
  have hf:∀h,resolve true h 199 (eL t 2 ePair L)=some (eL t 2 ePair L):=fun h=>flat_eL _ _ _ _ true h 199 (by decide)
  have hl:=pathP_len p p.length i
  have hD:=s11 tp p i hp
  have hK:=s8 t m (atL p i) i L hL (hn _)
  have hw:IntKind.i64.wrap ((i:Int)+1)=(i:Int)+1:=wrap64 (by omega) (by omega)
  have hs:=rootsA_succ p i e1
  have hrl:=rootsA_le p i
  have hw2:IntKind.i64.wrap ((rootsA p i:Int)+1)=(rootsA p i:Int)+1:=wrap64 (by omega) (by omega)
  have hge:p[i]=atL p i:=(atL_eq e1).symm
  rw [run_loop_of t13l0.eq_1]
  by_cases hr:atL p i=-1
  ·rw [if_pos hr]at hs
   by_cases hz:(pathP p p.length i).length=0
   ·have hg:gGood m L p i=false:=by simp [gGood,List.length_eq_zero_iff.1 hz]
    rw [spans_bad e1 hg]
    simp [h1,h2,h5,h8,h9,h10,e1,g0,hlim,hge,hr,cInt,e11,hD,hz,hw2]
   ·have hg:gGood m L p i=true:=by simp [gGood,hr,←List.length_eq_zero_iff,hz]
    have hz':¬((pathP p p.length i).length:Int)-1<0:=by omega
    simp [h1,h2,h5,h8,h9,h10,e1,g0,hlim,hge,hr,cInt,e11,hD,hz',hw2,hw]
    generalize hF:upd _ 10 _=F
    refine ih (i+1) F (by omega) (fun v hvi=>?_) (by rw [←hF];simp [h1]) (by rw [←hF];simp [h2]) (by rw [←hF,hs];simp) (by rw [←hF];simp [h8]) (by rw [←hF];simp [h9]) (by rw [←hF];simp)
    rcases Nat.lt_succ_iff_lt_or_eq.1 hvi with hv'|rfl
    ·exact hv v hv'
    ·exact hg
  ·rw [if_neg hr]at hs
   by_cases hk:gLink m L (atL p i) i=true
   ·by_cases hz:(pathP p p.length i).length=0
    ·have hg:gGood m L p i=false:=by simp [gGood,List.length_eq_zero_iff.1 hz]
     rw [spans_bad e1 hg]
     simp [h1,h2,h5,h8,h9,h10,e1,g0,hlim,hge,hr,cInt,e11,hD,hz,e8,hK,hk,hf]
    ·have hg:gGood m L p i=true:=by simp [gGood,hk,←List.length_eq_zero_iff,hz]
     have hz':¬((pathP p p.length i).length:Int)-1<0:=by omega
     simp [h1,h2,h5,h8,h9,h10,e1,g0,hlim,hge,hr,cInt,e11,hD,hz',hw,e8,hK,hk,hf]
     generalize hF:upd _ 10 _=F
     refine ih (i+1) F (by omega) (fun v hvi=>?_) (by rw [←hF];simp [h1]) (by rw [←hF];simp [h2]) (by rw [←hF,hs];simp [h5]) (by rw [←hF];simp [h8]) (by rw [←hF];simp [h9]) (by rw [←hF];simp)
     rcases Nat.lt_succ_iff_lt_or_eq.1 hvi with hv'|rfl
     ·exact hv v hv'
     ·exact hg
   ·have hg:gGood m L p i=false:=by simp [gGood,hr,hk]
    rw [spans_bad e1 hg]
    simp [h1,h2,h5,h8,h9,h10,e1,g0,hlim,hge,hr,cInt,e8,hK,hk,hf]
theorem s13 (t tp:Bool) (m:Int) (L:List (Int×Int)) (p:List Int) (hp:p.length≤1000000) (hL:L.length≤1000000) (hn:∀a,(gNear m a L).length≤12):pcF D t13 [.agg [.int .i64 m,eL t 2 ePair L],eL tp 1 cInt p]=some (.bool (spansP m L p)):=by
 unfold pcF
 rw [goRun_eq _ _ _ _ (by simp [t13])]
 simp [t13,-pcOut_some]
 generalize hF:upd _ 10 _=F
 exact l13 t tp m L p hp hL hn _ (by simp) (by simp) p.length 0 F (by simp) (fun v hv=>absurd hv (by omega)) (by rw [←hF];simp) (by rw [←hF];simp) (by rw [←hF];simp [rootsA]) (by rw [←hF];simp) (by rw [←hF];simp) (by rw [←hF];simp)
end Go.Dm.Tc
/-
A graph of numbers: right,seven brokers at most.
-/
namespace Go.Dm.Tc
def toID (l:Int×Int):ID:=⟨l.1,l.2⟩
structure LinksOk (m:Int) (L:List (Int×Int)):Prop where
 rng:∀l∈L,0≤l.1∧l.1<m∧0≤l.2∧l.2<m∧l.1≠l.2
 nd:L.Pairwise fun x y=>x≠y∧x≠(y.2,y.1)
def putL (L:List (Int×Int)) (a b:Int):List (Int×Int):=if a=b∨(a,b)∈L∨(b,a)∈L then L else L++[(a,b)]
theorem LinksOk.nil (m:Int):LinksOk m []:=⟨fun l h=>by simp at h,List.Pairwise.nil⟩
theorem LinksOk.put {m:Int} {L:List (Int×Int)} (h:LinksOk m L) {a b:Int} (ha:0≤a∧a<m) (hb:0≤b∧b<m):LinksOk m (putL L a b):=by
 unfold putL
 split
 ·exact h
 ·rename_i hn
  have h1:a≠b:=fun e=>hn (.inl e)
  have h2:(a,b) ∉ L:=fun e=>hn (.inr (.inl e))
  have h3:(b,a) ∉ L:=fun e=>hn (.inr (.inr e))
  refine ⟨fun l hl=>?_,?_⟩
  ·rcases List.mem_append.1 hl with hl|hl
   ·exact h.rng l hl
   ·rw [List.mem_singleton]at hl;subst hl;exact ⟨ha.1,ha.2,hb.1,hb.2,h1⟩
  ·rw [List.pairwise_append]
   refine ⟨h.nd,List.pairwise_singleton _ _,fun x hx y hy=>?_⟩
   rw [List.mem_singleton]at hy;subst hy
   exact ⟨fun e=>h2 (e ▸ hx),fun e=>h3 (e ▸ hx)⟩
theorem gNear_mem {m a:Int} {L:List (Int×Int)} {x:Int} (h:x∈gNear m a L):((a,x)∈L∨(x,a)∈L)∧0≤x∧x<m:=by
 rw [mem_gNear]at h
 unfold gLink at h
 rw [List.any_eq_true]at h
 obtain ⟨l,hl,h2⟩:=h
 obtain ⟨u,v⟩:=l
 rw [Bool.and_eq_true,Bool.or_eq_true]at h2
 have hm:=of_decide_eq_true h2.1
 rcases h2.2 with h3|h3
 ·have:=of_decide_eq_true h3
  obtain ⟨e1,e2⟩:=this
  simp only at e1 e2 hm
  subst e1;subst e2
  exact ⟨.inl hl,hm.2.2.1,hm.2.2.2.1⟩
 ·have:=of_decide_eq_true h3
  obtain ⟨e1,e2⟩:=this
  simp only at e1 e2 hm
  subst e1;subst e2
  exact ⟨.inr hl,hm.1,hm.2.1⟩
theorem gNear_nodup {m a:Int}:∀{L:List (Int×Int)},(L.Pairwise fun x y=>x≠y∧x≠(y.2,y.1))→(gNear m a L).Nodup
 | [],_=>List.nodup_nil
 | (u,v)::r,h=>by
  rw [List.pairwise_cons]at h
  have ih:=gNear_nodup (m:=m) (a:=a) h.2
  rw [gNear]
  split
  ·split
   ·rename_i e
    simp only at e
    subst e
    rw [List.nodup_cons]
    refine ⟨fun hm=>?_,ih⟩
    rcases (gNear_mem hm).1 with h1|h1
    ·exact (h.1 _ h1).1 rfl
    ·exact (h.1 _ h1).2 rfl
   ·split
    ·rename_i e
     simp only at e
     subst e
     rw [List.nodup_cons]
     refine ⟨fun hm=>?_,ih⟩
     rcases (gNear_mem hm).1 with h1|h1
     ·exact (h.1 _ h1).2 rfl
     ·exact (h.1 _ h1).1 rfl
    ·exact ih
  ·exact ih
theorem LinksOk.near {m:Int} {L:List (Int×Int)} (h:LinksOk m L) (h0:0≤m) (h7:m≤12) (a:Int):(gNear m a L).length≤12:=by
 have:=nodup_room (n:=m.toNat) (gNear_nodup (m:=m) (a:=a) h.nd) fun x hx=>by have:=(gNear_mem hx).2;omega
 omega
structure GraphH (x0 x1 x2:DV) (h:Heap) (m:Int) (L:List (Int×Int)):Prop where
 g0:h.get 0=some (.arr 24 3 [.agg [x0,x1,x2]] (some 1))
 g1:h.get 1=some (.arr 27 2 [.agg [.int .i64 0,.nsl]] (some 1))
 g2:∃ v,h.get 2=some (.arr 27 2 [.agg [.int .i64 m,v]] (some 1))∧OwnR 5 h v 38 2 (L.map ePair)
 g3:h.get 3=some (.mp (eSet (L.map toID)))
 g4:h.get 4=some (.arr 41 1 [.map 3] (some 1))
 lim:h.lim=0
 n:5≤h.n
 wf:WF h
end Go.Dm.Tc
/-
A graph of numbers: the function's walk.
-/
namespace Go.Dm.Tc
theorem within_in (n lo hi:Int) (h:lo≤hi):lo≤within n lo hi∧within n lo hi≤hi:=by
 have h1:0<hi-lo+1:=by omega
 have h2:=Int.tmod_lt_of_pos n h1
 have h3:=Int.lt_tmod_of_pos n h1
 unfold within
 split<;>omega
end Go.Dm.Tc
/-
TreesTells: the law's own path;what it counts.
-/
namespace Go.Dm.Tc
theorem s14:pcF D t14 []=some (.bool true):=pc_run (n:=2000) (args:=[]) e14 rfl (by kernel_rfl)
end Go.Dm.Tc
/-
TreesOdd: a line of brokers;its parents turned in one place.
-/
namespace Go.Dm.Tc
def lineL:Nat→List (Int×Int)
 | 0=>[]
 | k+1=>lineL k++[((k:Int),(k:Int)+1)]
def lineP:Nat→List Int
 | 0=>[-1]
 | k+1=>lineP k++[(k:Int)]
theorem lineL_len:∀k,(lineL k).length=k
 | 0=>rfl
 | k+1=>by simp [lineL,lineL_len k]
theorem lineP_len:∀k,(lineP k).length=k+1
 | 0=>rfl
 | k+1=>by simp [lineP,lineP_len k]
theorem gNear_len (m a:Int):∀L:List (Int×Int),(gNear m a L).length≤L.length
 | []=>Nat.le_refl _
 | l::r=>by
  have ih:=gNear_len m a r
  rw [gNear]
  split
  ·split
   ·simp;omega
   ·split<;>simp<;>omega
  ·simp;omega
def oddOk (M X Y:Nat):Bool :=
 let p:=lineP (M-1)
 let L:=lineL (M-1)
 spansP M L p && (decide ((pathP p p.length ((M:Int)-1)).length=M) &&
 (!spansP M L (p.set X Y) && (!spansP M L (p.set X (-1)) && (!spansP M L (p.set X (-2)) && (!spansP M L (p.set (M-1) 0) && (!spansP M L (p.take (M-1)) &&
 (decide ((pathP (p.set X Y) (p.set X Y).length Y).length=0) && (decide ((pathP (p.set X Y) (p.set X Y).length X).length=0) && (decide ((pathP (p.set X (-1)) (p.set X (-1)).length X).length=1) &&
 (decide ((pathP (p.set X (-2)) (p.set X (-2)).length ((M:Int)-1)).length=0) && (decide ((pathP (p.set (M-1) 0) (p.set (M-1) 0).length ((M:Int)-1)).length=2) &&
 (decide ((belowP (p.set X (-2)) X).length=0) && decide ((belowP (p.set X (-1)) X).length=M-X)))))))))))))
def oddAll:Bool:=(List.range 10).all fun M=>(List.range 9).all fun X=>(List.range 9).all fun Y=>!decide (3≤M∧1≤X∧X+2≤M∧X+1≤Y∧Y+1≤M) || oddOk M X Y
theorem odd_closed:oddAll=true:=by kernel_rfl
theorem odd_all {M X Y:Nat} (h3:3≤M) (h9:M≤9) (h1:1≤X) (h2:X+2≤M) (h4:X+1≤Y) (h5:Y+1≤M):oddOk M X Y=true:=by
 have h:=odd_closed
 unfold oddAll at h
 rw [List.all_eq_true]at h
 have h:=h M (List.mem_range.2 (by omega))
 rw [List.all_eq_true]at h
 have h:=h X (List.mem_range.2 (by omega))
 rw [List.all_eq_true]at h
 have h:=h Y (List.mem_range.2 (by omega))
 rw [decide_eq_true (⟨h3,h1,h2,h4,h5⟩:3≤M∧1≤X∧X+2≤M∧X+1≤Y∧Y+1≤M)]at h
 simpa using h
theorem s15 (tg t:Bool) (p:List Int) (i:Nat) (v:Int) (hi:i<p.length) (hp:p.length≤1000):pcF D t15 [.int .i64 i,.int .i64 v,.iptr tg [eL t 1 cInt p] 0]=some (eL false 1 cInt (p.set i v)):=by
 unfold pcF
 rw [goRun_eq _ _ _ _ (by simp [t15])]
 simp [t15]
 generalize hA:appendD _ _ _ _ _ _=A
 obtain ⟨w,K,rfl,o,x,_,_⟩:=append_frame (lo:=0) (xs:=[]) (.arr 0 [] (some 0) rfl (by simp) (by simp) (Nat.le_refl _)) (by simp) (by simp) (by simp) hA (by simp;omega) (by decide)
 clear hA
 have Kl:K.lim=0:=by rw [x.lim];simp
 have Kw:=x.wf
 rw [List.nil_append]at o
 cases o with
 | nil hv hx=>exfalso;have:=List.map_eq_nil_iff.1 hx;subst this;simp at hi
 | arr id sp cap hv hg hlim hlo =>
  subst hv
  have kid:=get_some_lt hg
  have hii:(p.map cInt++sp)[i]?=some (cInt p[i]):=by
   rw [List.getElem?_append_left (by simpa using hi),List.getElem?_map,List.getElem?_eq_getElem hi];rfl
  have hia:indexAddrV 1 (.sl id 1 0 p.length) (.int .i64 i)=some (.ptr id 1 i 0):=by simp [indexAddrV,asI,hi]
  rw [List.length_map]
  have o':OwnR 0 (K.set id (.arr 3 1 ((p.set i v).map cInt++sp) cap)) (.sl id 1 0 p.length) 3 1 ((p.set i v).map cInt):=.arr id sp cap (by simp) (by rw [get_set Kw kid,if_pos rfl]) (by show K.lim≤id;omega) (Nat.zero_le _)
  have hout:=o'.out (k:=22) (fun y _=>(plain_cint y).1.mono (by decide)) (fun y _=>(plain_cint y).2) (by decide)
  have hm:(p.map cInt++sp).set i (.int .i64 v)=(p.set i v).map cInt++sp:=by
   rw [List.set_append_left _ _ (by simpa using hi),List.map_set];rfl
  simp [hia,hg,Kl,hii,cInt,-pcOut_some]
  rw [hm]
  exact hout
theorem notAt_type {lo:Nat} {h:Heap} {v:DV} {ety sz k ety' sz':Nat} {xs ys:List DV} {cap:Option Nat} (w:OwnR lo h v ety sz xs) (g:h.get k=some (.arr ety' sz' ys cap)) (hne:ety≠ety'):NotAt v k:=by
 intro a b c e
 cases w with
 | nil hv _=>rw [hv]at e;cases e
 | arr id sp cp hv hg _ _ =>
  rw [hv]at e
  cases e
  rw [g]at hg
  cases hg
  exact hne rfl
theorem own_moved {lo:Nat} {h h':Heap} {v:DV} {ety sz:Nat} {xs:List DV} (w:OwnR lo h v ety sz xs) (hg:∀k ys cap,h.get k=some (.arr ety sz ys cap)→h'.get k=h.get k) (hl:h'.lim=h.lim):OwnR lo h' v ety sz xs:=by
 cases w with
 | nil hv hx=>exact .nil hv hx
 | arr id sp cap hv g a b=>exact .arr id sp cap hv (by rw [hg id _ _ g];exact g) (by rw [hl];exact a) b
structure OddH (h:Heap) (m:Int) (L:List (Int×Int)) (p:List Int):Prop where
 g0:∃ v,h.get 0=some (.arr 27 2 [.agg [.int .i64 m,v]] (some 1))∧OwnR 1 h v 38 2 (L.map ePair)
 g2:∃ w,h.get 2=some (.arr 22 1 [w] (some 1))∧OwnR 1 h w 3 1 (p.map cInt)
 lim:h.lim=0
 n:3≤h.n
 wf:WF h
set_option maxRecDepth 8000 in
theorem l4 (S:List Fr) (P:Res→Prop) (M:Nat) (h9:M≤9) (a b:Int) :
  ∀(k i:Nat) (f:FEnv) (h:Heap),i+k+1=M→OddH h M (lineL i) (lineP i)→f 1=.int .i64 a→f 2=.int .i64 b→f 7=.int .i64 M→f 8=.ptr 0 2 0 0→f 9=.ptr 2 1 0 0→f 10=.int .i64 ((i:Int)+1) →
  (∀F H,OddH H M (lineL (M-1)) (lineP (M-1))→F 1=.int .i64 a→F 2=.int .i64 b→F 7=.int .i64 M→F 8=.ptr 0 2 0 0→F 9=.ptr 2 1 0 0→P (run D 158 S t4k0 F H)) →
  P (run D 158 (.block 0::.seq t4k0::S) (.loop t4l0) f h):=by
 intro k
 induction k with
 | zero =>
  intro i f h hi hh h1 h2 h7 h8 h9' h10 hfin
  have e1:M-1=i:=by omega
  have e2:¬(i:Int)+1<M:=by omega
  rw [run_loop_of t4l0.eq_1]
  simp [h7,h10,e2]
  exact hfin _ _ (by rw [e1];exact hh) (by simp [h1]) (by simp [h2]) (by simp [h7]) (by simp [h8]) (by simp [h9'])
 | succ k ih =>
  intro i f h hi hh h1 h2 h7 h8 h9' h10 hfin
  obtain ⟨⟨v,g0,ov⟩,⟨w,g2,ow⟩,lim,hn,wf⟩:=hh
  have e2:(i:Int)+1<M:=by omega
  have w1:IntKind.i64.wrap (i:Int)=i:=wrap64 (by omega) (by omega)
  have w2:IntKind.i64.wrap ((i:Int)+1+1)=(i:Int)+1+1:=wrap64 (by omega) (by omega)
  have hll:=lineL_len i
  have hlp:=lineP_len i
  rw [run_loop_of t4l0.eq_1]
  simp [h7,h8,h9',h10,e2,g0,w1]
  generalize hA:appendD _ _ _ _ _ _=A
  obtain ⟨v',K,rfl,ov',x',fr,_⟩:=append_frame ov.push wf.push (by simp) (by simp [lim]) hA (by simp [hll]<;>omega) (by decide)
  clear hA
  have i0:¬0=h.n:=by omega
  have i2:¬2=h.n:=by omega
  have G0:=fr 0 (by simp<;>omega) (notAt_type ov g0 (by decide))
  have G2:=fr 2 (by simp<;>omega) (notAt_type ov g2 (by decide))
  have Kl:=x'.lim
  have Kw:=x'.wf
  simp [i0,i2,g0,g2,lim]at G0 G2 Kl
  have ow':OwnR 1 K w 3 1 ((lineP i).map cInt):=own_moved (ow.push (o:=.arr 38 2 [.agg [.int .i64 i,.int .i64 ((i:Int)+1)]] (some 1))) (fun j ys cap gj=>fr j (get_some_lt gj) (notAt_type ov.push gj (by decide))) x'.lim
  have k0:0<K.n:=get_some_lt G0
  have k2:2<K.n:=get_some_lt G2
  have ws:=ov'.storable
  have we:=ov'.ecells
  have iK:¬K.n=0:=by omega
  have j0:¬0=K.n:=by omega
  have j2:¬2=K.n:=by omega
  have weW:=ow'.ecells
  simp [h7,h8,h9',h10,w1,G0,G2,Kl,Kw,k0,k2,ws,we,weW,turn]
  generalize hA:appendD _ _ _ _ _ _=A
  have oq:OwnR 1 (K.set 0 (.arr 27 2 [.agg [.int .i64 M,v']] (some 1))) w 3 1 ((lineP i).map cInt):=ow'.setLow Kw (by decide) k0
  have ov2:OwnR 1 (K.set 0 (.arr 27 2 [.agg [.int .i64 M,v']] (some 1))) v' 38 2 ((lineL (i+1)).map ePair):=by
   have o1:OwnR 1 K v' 38 2 ((lineL (i+1)).map ePair):=by simpa [lineL,ePair] using ov'
   exact o1.setLow Kw (by decide) k0
  obtain ⟨w',K2,rfl,oq',x2,fr2,_⟩:=append_frame oq.push (by simp [Kw]) (by simp) (by simp [Kl]) hA (by simp [hlp]<;>omega) (by decide)
  clear hA
  have Q0:=fr2 0 (by simp<;>omega) (notAt_type (k:=0) oq (by rw [get_set Kw k0,if_pos rfl]) (by decide))
  have Q2:=fr2 2 (by simp<;>omega) (notAt_type (k:=2) oq (by rw [get_set Kw k0,if_neg (by decide)];exact G2) (by decide))
  have L2:=x2.lim
  have W2:=x2.wf
  simp [j0,j2,Kw,k0,k2,G2,Kl]at Q0 Q2 L2
  have ov3:OwnR 1 K2 v' 38 2 ((lineL (i+1)).map ePair):=own_moved (ov2.push (o:=.arr 3 1 [.int .i64 i] (some 1))) (fun j ys cap gj=>fr2 j (get_some_lt gj) (notAt_type oq.push gj (by decide))) x2.lim
  have q2:2<K2.n:=get_some_lt Q2
  have ws2:=oq'.storable
  have we2:=oq'.ecells
  simp [h9',h10,Q0,Q2,L2,W2,q2,ws2,we2,weW,turn,w2]
  generalize hF:upd _ 10 _=F
  refine ih (i+1) F (K2.set 2 (.arr 22 1 [w'] (some 1))) (by omega) ⟨⟨v',?_,own_set ov3 W2 q2 (notAt_type ov3 Q2 (by decide))⟩,⟨w',?_,?_⟩,?_,?_,?_⟩ (by rw [←hF];simp [h1]) (by rw [←hF];simp [h2]) (by rw [←hF];simp [h7]) (by rw [←hF];simp [h8]) (by rw [←hF];simp [h9']) (by rw [←hF];simp) hfin
  ·simp [W2,q2,Q0]
  ·simp [W2,q2]
  ·have o'':OwnR 1 K2 w' 3 1 ((lineP (i+1)).map cInt):=by simpa [lineP,cInt] using oq'
   exact own_set o'' W2 q2 (notAt_type o'' Q2 (by decide))
  ·simp [L2]
  ·simp;omega
  ·simp [W2]
set_option maxRecDepth 8000 in
set_option maxHeartbeats 4000000 in
theorem s4 (n a b:Int):pcF D t4 [.int .i64 n,.int .i64 a,.int .i64 b]=some (.bool true):=by
 have m1:=within_in n 3 9 (by decide)
 obtain ⟨M,hM⟩:∃ M:Nat,within n 3 9=M:=⟨(within n 3 9).toNat,by omega⟩
 rw [hM]at m1
 have x1:=within_in a 1 ((M:Int)-2) (by omega)
 obtain ⟨X,hX⟩:∃ X:Nat,within a 1 ((M:Int)-2)=X:=⟨(within a 1 ((M:Int)-2)).toNat,by omega⟩
 rw [hX]at x1
 have y1:=within_in b ((X:Int)+1) ((M:Int)-1) (by omega)
 obtain ⟨Y,hY⟩:∃ Y:Nat,within b ((X:Int)+1) ((M:Int)-1)=Y:=⟨(within b ((X:Int)+1) ((M:Int)-1)).toNat,by omega⟩
 rw [hY]at y1
 have wM:=s6 n 3 9 (by decide) (by decide) (by decide)
 have wX:=s6 a 1 ((M:Int)-2) (by omega) (by decide) (by omega)
 have wY:=s6 b ((X:Int)+1) ((M:Int)-1) (by omega) (by omega) (by omega)
 rw [hM]at wM
 rw [hX]at wX
 rw [hY]at wY
 have odd:=odd_all (M:=M) (X:=X) (Y:=Y) (by omega) (by omega) (by omega) (by omega) (by omega) (by omega)
 unfold oddOk at odd
 simp only [Bool.and_eq_true,Bool.not_eq_true']at odd
 obtain ⟨f1,f2,f3,f4,f5,f6,f7,f8,f9,f10,f11,f12,f13,f14⟩:=odd
 have f2:=of_decide_eq_true f2
 have f8:=of_decide_eq_true f8
 have f9:=of_decide_eq_true f9
 have f10:=of_decide_eq_true f10
 have f11:=of_decide_eq_true f11
 have f12:=of_decide_eq_true f12
 have f13:=of_decide_eq_true f13
 have f14:=of_decide_eq_true f14
 have hlL:=lineL_len (M-1)
 have hlP:=lineP_len (M-1)
 unfold pcF
 rw [goRun_eq _ _ _ _ (by simp [t4])]
 simp [t4,e6,wM,turn]
 generalize hF:upd _ 10 _=F
 generalize hH:Heap.push _ _=H
 refine l4 [] (fun r=>pcOut (fin [.t 6] r)=some (.bool true)) M (by omega) a b (M-1) 0 F H (by omega) ⟨⟨.nsl,by rw [←hH];simp,.nil rfl rfl⟩,⟨.sl 1 1 0 1,by rw [←hH];simp,.arr 1 [] (some 1) (by simp [lineP]) (by rw [←hH];simp [lineP,cInt]) (by rw [←hH];simp) (by decide)⟩,by rw [←hH];simp,by rw [←hH];simp,by rw [←hH];simp⟩ (by rw [←hF];simp) (by rw [←hF];simp) (by rw [←hF];simp) (by rw [←hF];simp) (by rw [←hF];simp) (by rw [←hF];simp) fun F1 H1 hh b1 b2 b7 b8 b9=>?_
 obtain ⟨⟨v,g0,ov⟩,⟨w,g2,ow⟩,lim,hn1,wf⟩:=hh
 clear hF hH
 obtain ⟨p,hp⟩:∃ p,lineP (M-1)=p:=⟨_,rfl⟩
 obtain ⟨L,hL⟩:∃ L,lineL (M-1)=L:=⟨_,rfl⟩
 rw [hp]at f1 f2 f3 f4 f5 f6 f7 f8 f9 f10 f11 f12 f13 f14 hlP ow
 rw [hL]at f1 f3 f4 f5 f6 f7 hlL ov
 have hpm:p.length=M:=by omega
 have hn:=fun a=>Nat.le_trans (gNear_len M a L) (show L.length≤12 by omega)
 have kX:X<p.length:=by omega
 have kM:M-1<p.length:=by omega
 have C1:=s15 true true p X Y kX (by omega)
 have C2:=s15 true true p X (-1) kX (by omega)
 have C3:=s15 true true p X (-2) kX (by omega)
 have C4:=s15 true true p (M-1) 0 kM (by omega)
 have cM:((M-1:Nat):Int)=(M:Int)-1:=by omega
 rw [cM]at C4
 have l1:(p.set X (Y:Int)).length=M:=by simp [hpm]
 have l2:(p.set X (-1)).length=M:=by simp [hpm]
 have l3:(p.set X (-2)).length=M:=by simp [hpm]
 have l4:(p.set (M-1) 0).length=M:=by simp [hpm]
 have l5:(p.take (M-1)).length=M-1:=by simp [hpm]
 obtain ⟨R1,e1⟩:∃ r,p.set X (Y:Int)=r:=⟨_,rfl⟩
 obtain ⟨R2,e2⟩:∃ r,p.set X (-1)=r:=⟨_,rfl⟩
 obtain ⟨R3,e3⟩:∃ r,p.set X (-2)=r:=⟨_,rfl⟩
 obtain ⟨R4,e4⟩:∃ r,p.set (M-1) 0=r:=⟨_,rfl⟩
 obtain ⟨R5,e5⟩:∃ r,p.take (M-1)=r:=⟨_,rfl⟩
 rw [e1]at f3 f8 f9 C1 l1
 rw [e2]at f4 f10 f14 C2 l2
 rw [e3]at f5 f11 f13 C3 l3
 rw [e4]at f6 f12 C4 l4
 rw [e5]at f7 l5
 have S0:=s13 true true M L p (by omega) (by omega) hn
 have S1:=s13 true false M L R1 (by omega) (by omega) hn
 have S2:=s13 true false M L R2 (by omega) (by omega) hn
 have S3:=s13 true false M L R3 (by omega) (by omega) hn
 have S4:=s13 true false M L R4 (by omega) (by omega) hn
 have S5:=s13 true true M L R5 (by omega) (by omega) hn
 rw [f1]at S0
 rw [f3]at S1
 rw [f4]at S2
 rw [f5]at S3
 rw [f6]at S4
 rw [f7]at S5
 have D0:=s11 true p ((M:Int)-1) (by omega)
 have D1:=s11 false R1 X (by omega)
 have D2:=s11 false R2 X (by omega)
 have D4:=s11 false R4 ((M:Int)-1) (by omega)
 rw [f2]at D0
 rw [f9]at D1
 rw [f10]at D2
 rw [f12]at D4
 have P1:=s10 false R1 Y (by omega)
 have P3:=s10 false R3 ((M:Int)-1) (by omega)
 have B3:=s12 false R3 X (by omega)
 have B2:=s12 false R2 X (by omega)
 have f14':((belowP R2 X).length:Int)=(M:Int)-X:=by omega
 have a1:IntKind.i64.wrap ((M:Int)-1)=(M:Int)-1:=wrap64 (by omega) (by omega)
 have a2:IntKind.i64.wrap ((M:Int)-2)=(M:Int)-2:=wrap64 (by omega) (by omega)
 have a3:IntKind.i64.wrap ((X:Int)+1)=(X:Int)+1:=wrap64 (by omega) (by omega)
 have a4:IntKind.i64.wrap ((M:Int)-X)=(M:Int)-X:=wrap64 (by omega) (by omega)
 have rv:resolve true H1 199 v=some (eL true 2 ePair L):=ov.resolve true (fun y _=>(plain_pair y).1) (by decide)
 have r0:resolve true H1 200 w=some (eL true 1 cInt p):=ow.resolve true (fun y _=>(plain_cint y).1) (by decide)
 have r1:resolve true H1 199 w=some (eL true 1 cInt p):=ow.resolve true (fun y _=>(plain_cint y).1) (by decide)
 have r2:resolve true H1 198 w=some (eL true 1 cInt p):=ow.resolve true (fun y _=>(plain_cint y).1) (by decide)
 have wv:=ov.ecells
 have we:=ow.ecells
 have hR:=s14
 cases ow with
 | nil hv hx=>exfalso;have:=List.map_eq_nil_iff.1 hx;subst this;simp at hpm;omega
 | arr id sp cap hv hg hlim hlo =>
  rw [List.length_map,hpm]at hv
  have o5:OwnR 1 H1 (.sl id 1 0 (M-1)) 3 1 (R5.map cInt):=.arr id ((p.drop (M-1)).map cInt++sp) cap (by simp [l5]) (by rw [hg,←e5,←List.append_assoc,←List.map_append,List.take_append_drop]) hlim hlo
  have r5:resolve true H1 200 (.sl id 1 0 (M-1))=some (eL true 1 cInt R5):=o5.resolve true (fun y _=>(plain_cint y).1) (by decide)
  have hsl:sliceV H1 1 w none (some (.int .i64 ((M:Int)-1)))=some (.sl id 1 0 (M-1)):=by
   rw [hv]
   simp [sliceV,hg,boundV,asI,hpm]
   rw [if_pos (by omega)]
  simp [t4k0,b1,b2,b7,b8,b9,g0,g2,lim,wv,we,rv,r0,r1,r2,e13,S0,e11,D0,a1,a2,a3,a4,e6,wX,wY,e15,C1,C2,C3,C4,S1,S2,S3,S4,hsl,r5,S5,e10,P1,f8,D1,D2,D4,P3,f11,e12,B3,f13,B2,f14',e14,hR]
end Go.Dm.Tc
