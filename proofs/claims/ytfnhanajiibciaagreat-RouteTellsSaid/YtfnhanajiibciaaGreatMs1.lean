/-
What functions of the program compute, part 9: what may be a name, a constraint, a predicate.
-/
import Derived.Test.YtfnhanajiibciaaGreatMs0
set_option linter.all false
namespace Go.Dm.Tc
def letters (s:List UInt8):Bool:=s.all fun b=>decide (97≤b.toNat) && decide (b.toNat≤122)
def nameOk (s:List UInt8):Bool:=letters s && !decide (s=[]) && decide (s.length≤12)
theorem l185 (xs:List UInt8) (hl:xs.length≤1000000) :
  ∀(rest:List UInt8) (i:Nat) (f:FEnv) (h:Heap),xs.drop i=rest→f 0=.str xs→f 5=.int .i64 xs.length→f 6=.int .i64 i →
  pcOut (fin [.t 2] (run D 27 [.block 0,.seq t185k0] (.loop t185l0) f h))=some (.bool (letters rest && !decide (xs=[]) && decide (xs.length≤12))):=by
 intro rest
 induction rest with
 | nil =>
  intro i f h hd h0 h5 h6
  have hi:=drop_nil hd
  have:¬(i<xs.length):=by omega
  rw [run_loop_of t185l0.eq_1]
  by_cases hx:xs=[]
  ·subst hx
   have h0i:¬(i:Int)<0:=by omega
   simp [t185k0,h0,h5,h6,h0i,letters]
  ·have hb:(xs == ([]:List UInt8))=false:=by cases xs<;>simp_all
   simp [t185k0,h0,h5,h6,this,hx,hb,letters]
   omega
 | cons e rest ih =>
  intro i f h hd h0 h5 h6
  obtain ⟨hi,he,hd'⟩:=drop_at hd
  have hq:∀k,indexStrV (.str xs) (.int k (i:Int))=some (.int .u8 e.toNat):=fun k=>indexStrV_nat xs k i (by rw [List.getElem?_eq_getElem hi,he])
  rw [run_loop_of t185l0.eq_1]
  by_cases h1:e.toNat<97
  ·have h1':(e.toNat:Int)<97:=by omega
   have hle:letters (e::rest)=false:=by
    have:¬97≤e.toNat:=by omega
    simp only [letters,List.all_cons,decide_eq_false this,Bool.false_and]
   simp [h0,h5,h6,hi,hq,h1',hle]
  ·have h1':¬(e.toNat:Int)<97:=by omega
   by_cases h2:122<e.toNat
   ·have h2':(122:Int)<e.toNat:=by omega
    have hle:letters (e::rest)=false:=by
     have:¬e.toNat≤122:=by omega
     simp only [letters,List.all_cons,decide_eq_false this,Bool.and_false,Bool.false_and]
    simp [h0,h5,h6,hi,hq,h1',h2',hle]
   ·have h2':¬(122:Int)<e.toNat:=by omega
    have hle:letters (e::rest)=letters rest:=by
     have q1:97≤e.toNat:=by omega
     have q2:e.toNat≤122:=by omega
     simp only [letters,List.all_cons,decide_eq_true q1,decide_eq_true q2,Bool.true_and]
    simp [h0,h5,h6,hi,hq,h1',h2',hle]
    rw [wrap64 (by omega) (by omega)]
    refine (ih (i+1) _ h hd' ?_ ?_ ?_).trans ?_<;>simp [h0,h5]
theorem s185 (xs:List UInt8) (hl:xs.length≤1000000):pcF D t185 [.str xs]=some (.bool (nameOk xs)):=by
 unfold pcF
 rw [goRun_eq _ _ _ _ (by simp [t185])]
 simp [t185]
 refine (l185 xs hl xs 0 _ _ rfl ?_ ?_ ?_).trans ?_<;>simp [nameOk]
def rightOne (c : Cons) : Bool :=
  nameOk c.name &&
    (if c.kind = 1 then decide (c.lo ≤ c.hi) && decide (c.text = [])
     else if c.kind = 3 then !decide (c.text.length = 12) && (decide (c.lo = 0) && decide (c.hi = 0) && decide (c.text.length ≤ 12))
     else if c.kind = 2 then decide (c.lo = 0) && decide (c.hi = 0) && decide (c.text.length ≤ 12)
     else false)
theorem s151 (nm:List UInt8) (k lo hi:Int) (tx:List UInt8) (hl:nm.length≤1000000) :
  pcF D t151 [.agg [.str nm,.int .i64 k,.int .i64 lo,.int .i64 hi,.str tx]]=some (.bool (rightOne ⟨nm,k,lo,hi,tx⟩)):=by
 unfold pcF
 rw [goRun_eq _ _ _ _ (by simp [t151])]
 cases hn:nameOk nm with
 | false=>simp [t151,e185,s185,hl,hn,rightOne]
 | true =>
  have hlen:∀n:Nat,((tx.length:Int) == (n:Int))=decide (tx.length=n):=fun n=>by
   by_cases h:tx.length=n
   ·simp [h]
   ·have h':¬(tx.length:Int)=n:=by omega
    simp [h,h']
  have hnil:(tx == ([]:List UInt8))=decide (tx=[]):=by cases tx<;>simp
  by_cases k1:k=1
  ·subst k1
   by_cases h1:lo≤hi
   ·simp [t151,e185,s185,hl,hn,rightOne,h1,hnil]
   ·simp [t151,e185,s185,hl,hn,rightOne,h1,hnil]
  ·by_cases k3:k=3
   ·subst k3
    by_cases h12:tx.length=12
    ·simp [t151,e185,s185,hl,hn,rightOne,h12]
    ·have h12':¬(tx.length:Int)=12:=by omega
     by_cases hlo:lo=0
     ·by_cases hhi:hi=0
      ·simp [t151,e185,s185,hl,hn,rightOne,h12,h12',hlo,hhi]
       omega
      ·simp [t151,e185,s185,hl,hn,rightOne,h12,h12',hlo,hhi]
     ·simp [t151,e185,s185,hl,hn,rightOne,h12,h12',hlo]
   ·by_cases k2:k=2
    ·subst k2
     by_cases hlo:lo=0
     ·by_cases hhi:hi=0
      ·simp [t151,e185,s185,hl,hn,rightOne,hlo,hhi]
       omega
      ·simp [t151,e185,s185,hl,hn,rightOne,hlo,hhi]
     ·simp [t151,e185,s185,hl,hn,rightOne,hlo]
    ·simp [t151,e185,s185,hl,hn,rightOne,k1,k2,k3]
def rightA:Option (List UInt8)→Pred→Bool
 | _,[]=>true
 | prev,c::r=>rightOne c && (match prev with|none=>true|some n=>Go.Op.bytesLess n c.name) && rightA (some c.name) r
def rightP (p:Pred):Bool:=rightA none p && decide (p.length≤5)
def NamesP (p:Pred):Prop:=p.length≤1000000∧∀c∈p,c.name.length≤1000000
theorem l105 (p:Pred) (hp:NamesP p) :
  ∀(rest:Pred) (prev:Option (List UInt8)) (i:Nat) (f:FEnv) (h:Heap),p.drop i=rest→((i=0∧prev=none)∨∃ j c,i=j+1∧p[j]?=some c∧prev=some c.name) →
   f 0=eL false 5 eCons p→f 5=eL false 5 eCons p→f 6=.int .i64 p.length→f 7=.int .i64 i→h.lim=0 →
  pcOut (fin [.t 2] (run D 34 [.block 0,.seq t105k0] (.loop t105l0) f h))=some (.bool (rightA prev rest && decide (p.length≤5))):=by
 obtain ⟨hp1,hp2⟩:=hp
 intro rest
 induction rest with
 | nil =>
  intro prev i f h hd hv h0 h5 h6 h7 hlim
  have hi:=drop_nil hd
  have:¬(i<p.length):=by omega
  rw [run_loop_of t105l0.eq_1]
  simp [t105k0,h0,h6,h7,this,rightA]
  omega
 | cons c rest ih =>
  intro prev i f h hd hv h0 h5 h6 h7 hlim
  obtain ⟨hi,he,hd'⟩:=drop_at hd
  have hnm:c.name.length≤1000000:=hp2 c (by rw [←he];exact List.getElem_mem hi)
  rw [run_loop_of t105l0.eq_1]
  cases hr:rightOne c with
  | false =>
   have hr':rightOne ⟨c.name,c.kind,c.lo,c.hi,c.text⟩=false:=hr
   simp [h0,h5,h6,h7,hi,he,hlim,eCons,e151,s151,hnm,hr',rightA,hr]
  | true =>
   have hr':rightOne ⟨c.name,c.kind,c.lo,c.hi,c.text⟩=true:=hr
   rcases hv with ⟨i0,hpv⟩|⟨j,c0,ij,hj,hpv⟩
   ·subst hpv
    have hpos:¬0<i:=by omega
    simp [h0,h5,h6,h7,hi,he,hlim,eCons,e151,s151,hnm,hr',hpos]
    rw [wrap64 (by omega) (by omega)]
    refine (ih (some c.name) (i+1) _ _ hd' (.inr ⟨i,c,rfl,by rw [List.getElem?_eq_getElem hi,he],rfl⟩) ?_ ?_ ?_ ?_ ?_).trans ?_<;>simp [h0,h5,h6,eCons,hlim,rightA,hr]
   ·subst hpv
    subst ij
    have hpos:(0:Int)<(j:Int)+1:=by omega
    have hw:IntKind.i64.wrap (j:Int)=j:=wrap64 (by omega) (by omega)
    have hjj:j<p.length:=by omega
    have hlt:(j:Int)+1<p.length:=by omega
    have hj':p[j]=c0:=by rw [List.getElem?_eq_getElem hjj]at hj;exact Option.some.inj hj
    cases hb:Go.Op.bytesLess c0.name c.name with
    | false=>simp [h0,h5,h6,h7,hi,he,hlim,eCons,e151,s151,hnm,hr',hpos,hlt,hw,hjj,hj',hb,rightA]
    | true =>
     simp [h0,h5,h6,h7,hi,he,hlim,eCons,e151,s151,hnm,hr',hpos,hlt,hw,hjj,hj',hb]
     rw [wrap64 (by omega) (by omega)]
     refine (ih (some c.name) (j+1+1) _ _ hd' (.inr ⟨j+1,c,rfl,by rw [List.getElem?_eq_getElem hi,he],rfl⟩) ?_ ?_ ?_ ?_ ?_).trans ?_<;>simp [h0,h5,h6,eCons,hlim,rightA,hr,hb]
theorem s105 (p:Pred) (hp:NamesP p):pcF D t105 [ePred p]=some (.bool (rightP p)):=by
 unfold pcF
 rw [goRun_eq _ _ _ _ (by simp [t105])]
 simp only [ePred]
 simp [t105]
 refine (l105 p hp p none 0 _ _ rfl (.inl ⟨rfl,rfl⟩) ?_ ?_ ?_ ?_ ?_).trans ?_<;>simp [rightP]
end Go.Dm.Tc
/-
What functions of the program compute,part 10: is a broker right?
-/
namespace Go.Dm.Tc
def linkB (b:Broker) (n:Int):Bool:=decide (n=-1) || b.near.contains n
theorem s104 (x0 x2 x3 x4 x5:DV) (t:Bool) (l:List Int) (n:Int) (hl:l.length≤1000000) :
  pcF D t104 [.agg [x0,eL t 1 cInt l,x2,x3,x4,x5],.int .i64 n]=some (.bool (decide (n=-1) || l.contains n)):=by
 unfold pcF
 rw [goRun_eq _ _ _ _ (by simp [t104])]
 by_cases h:n=-1
 ·simp [t104,h]
 ·simp [t104,h,e150,s150,hl]
theorem s92 (a b:Int):pcF D t92 [.int .i64 a,.int .i64 b]=some (.bool (decide (a<b))):=by
 unfold pcF
 rw [goRun_eq _ _ _ _ (by simp [t92])]
 simp [t92]
theorem s95 (a b c d:Int) (p q r s:DV):pcF D t95 [.agg [.int .i64 a,.int .i64 b,p,q],.agg [.int .i64 c,.int .i64 d,r,s]]=some (.bool (ltID ⟨a,b⟩ ⟨c,d⟩)):=by
 unfold pcF
 rw [goRun_eq _ _ _ _ (by simp [t95])]
 simp [t95,e56,s56]
theorem s97 (a b c d:Int) (p r:DV):pcF D t97 [.agg [.int .i64 a,.int .i64 b,p],.agg [.int .i64 c,.int .i64 d,r]]=some (.bool (ltID ⟨a,b⟩ ⟨c,d⟩)):=by
 unfold pcF
 rw [goRun_eq _ _ _ _ (by simp [t97])]
 simp [t97,e56,s56]
def cmpE (t1 s1 t2 s2:ID):Int:=orI (cmpID t1 t2) (cmpID s1 s2)
def ltE (x y:Entry):Bool:=decide (cmpE x.tree x.sub y.tree y.sub<0)
theorem s99 (a b c d a' b' c' d':Int) (p q r p' q' r':DV) :
  pcF D t99 [.agg [.int .i64 a,.int .i64 b,.int .i64 c,.int .i64 d,p,q,r],.agg [.int .i64 a',.int .i64 b',.int .i64 c',.int .i64 d',p',q',r']]=some (.bool (decide (cmpE ⟨a,b⟩ ⟨c,d⟩ ⟨a',b'⟩ ⟨c',d'⟩<0))):=by
 unfold pcF
 rw [goRun_eq _ _ _ _ (by simp [t99])]
 simp [t99,e101,s101,e100,mkIsl,s100,cmpE]
 exact decide_eq_decide.2 Iff.rfl
theorem rising_of {α:Type} {key:α→ID}:∀{l:List α},risesB (fun x y=>ltID (key x) (key y)) l=true→Rising (l.map key)
 | [],_=>List.Pairwise.nil
 | [a],_=>by simp [Rising]
 | a::b::r,h=>by
  simp only [risesB,Bool.and_eq_true]at h
  have ih:Rising ((b::r).map key):=rising_of h.2
  have h1:cmpID (key a) (key b)<0:=by simpa [ltID] using h.1
  unfold Rising at *
  rw [List.map_cons,List.pairwise_cons]
  refine ⟨fun x hx=>?_,ih⟩
  rw [List.map_cons]at hx ih
  rcases List.mem_cons.1 hx with rfl|hx
  ·exact h1
  ·exact cmpID_trans h1 ((List.pairwise_cons.1 ih).1 x hx)
theorem of_rising {α:Type} {key:α→ID}:∀{l:List α},Rising (l.map key)→risesB (fun x y=>ltID (key x) (key y)) l=true
 | [],_=>rfl
 | [a],_=>rfl
 | a::b::r,h=>by
  unfold Rising at h
  rw [List.map_cons,List.pairwise_cons]at h
  simp only [risesB,Bool.and_eq_true]
  refine ⟨?_,of_rising (l:=b::r) h.2⟩
  have:=h.1 (key b) (by simp)
  simpa [ltID] using this
def rightEnt (b:Broker) (e:Entry):Bool :=
 match b.adverts.find? (fun a=>a.id=e.tree) with
 | none=>false
 | some a=>linkB b e.frm && (!decide (e.frm=a.parent) || decide (a.parent=-1)) && !(e.up && decide (a.parent=-1)) && rightP e.pred
theorem s108 (me:Int) (x3 x4 x5:DV) (t u:Bool) (near:List Int) (l:List Advert) (e:Entry) (b:Broker) (hb:b.near=near) (hb2:b.adverts=l) (hr:Rising (l.map (·.id))) (hl:l.length≤1000000) (hn:near.length≤1000000) (f3:Flat 20 x3) (f4:Flat 20 x4) (f5:Flat 20 x5) (hp:NamesP e.pred) :
  pcF D t108 [.agg [.int .i64 me,eL u 1 cInt near,eL t 4 eAdvert l,x3,x4,x5],.agg [.int .i64 e.tree.client,.int .i64 e.tree.seq,.int .i64 e.sub.client,.int .i64 e.sub.seq,ePred e.pred,.int .i64 e.frm,.bool e.up]]=some (.bool (rightEnt b e)):=by
 have g3:∀tg h,resolve tg h 199 x3=some x3:=fun tg h=>f3 _ _ _ (by decide)
 have g4:∀tg h,resolve tg h 199 x4=some x4:=fun tg h=>f4 _ _ _ (by decide)
 have g5:∀tg h,resolve tg h 199 x5=some x5:=fun tg h=>f5 _ _ _ (by decide)
 have hfd:=fun c d=>s23 (.int .i64 me) (eL u 1 cInt near) x3 x4 x5 t l c d hr hl ((flat_int _ _).mono (by decide)) ((flat_eL _ _ _ _).mono (by decide)) f3 f4 f5
 subst hb
 subst hb2
 unfold pcF
 rw [goRun_eq _ _ _ _ (by simp [t108])]
 cases hq:b.adverts.find? (fun a=>a.id=⟨e.tree.client,e.tree.seq⟩) with
 | none =>
  have hq':b.adverts.find? (fun a=>a.id=e.tree)=none:=hq
  simp [t108,g3,g4,g5,e23,hfd,hq,hasO,advZero,eAdvert,turn,rightEnt,hq']
 | some a =>
  have hq':b.adverts.find? (fun a=>a.id=e.tree)=some a:=hq
  have hlk:=s104 (.int .i64 me) (eL t 4 eAdvert b.adverts) x3 x4 x5 u b.near e.frm hn
  have hrt:=s105 e.pred hp
  obtain ⟨L,hL⟩:∃ L,(decide (e.frm=-1) || b.near.contains e.frm)=L:=⟨_,rfl⟩
  obtain ⟨R,hR⟩:∃ R,rightP e.pred=R:=⟨_,rfl⟩
  rw [hL]at hlk
  rw [hR]at hrt
  have hlkB:linkB b e.frm=L:=hL
  cases L with
  | false=>simp [t108,g3,g4,g5,e23,hfd,hq,hasO,eAdvert,turn,rightEnt,hq',e104,hlk,hlkB]
  | true =>
   by_cases hpl:a.parent=-1
   ·cases hup:e.up with
    | true =>
     by_cases hfp:e.frm=-1
     ·simp [t108,g3,g4,g5,e23,hfd,hq,hasO,eAdvert,turn,rightEnt,hq',e104,hlk,hlkB,hpl,eq_true hfp,hup]
     ·simp [t108,g3,g4,g5,e23,hfd,hq,hasO,eAdvert,turn,rightEnt,hq',e104,hlk,hlkB,hpl,hfp,hup]
    | false =>
     by_cases hfp:e.frm=-1
     ·cases R<;>simp [t108,g3,g4,g5,e23,hfd,hq,hasO,eAdvert,turn,rightEnt,hq',e104,hlk,hlkB,hpl,eq_true hfp,hup,e105,hrt,hR]
     ·cases R<;>simp [t108,g3,g4,g5,e23,hfd,hq,hasO,eAdvert,turn,rightEnt,hq',e104,hlk,hlkB,hpl,hfp,hup,e105,hrt,hR]
   ·by_cases hfp:e.frm=a.parent
    ·simp [t108,g3,g4,g5,e23,hfd,hq,hasO,eAdvert,turn,rightEnt,hq',e104,hlk,hlkB,hpl,eq_true hfp]
    ·cases hup:e.up<;>cases R<;>simp [t108,g3,g4,g5,e23,hfd,hq,hasO,eAdvert,turn,rightEnt,hq',e104,hlk,hlkB,hpl,hfp,hup,e105,hrt,hR]
end Go.Dm.Tc
/-
What functions of the program compute,part 11: is a broker right? All of it.
-/
namespace Go.Dm.Tc
structure SizedN (b:Broker):Prop where
 adv:∀x∈b.adverts,NamesP x.pred
 ent:∀x∈b.entries,NamesP x.pred
 own:∀x∈b.owns,NamesP x.pred
def rightAdv (b:Broker) (a:Advert):Bool:=decide (a.id∈b.seen) && linkB b a.parent && rightP a.pred
def bCells (t:Tags) (b:Broker):List DV:=[.int .i64 b.me,eL t.near 1 cInt b.near,eL t.adverts 4 eAdvert b.adverts,eL t.seen 2 eID b.seen,eL t.entries 7 eEntry b.entries,eL t.owns 3 eOwn b.owns]
theorem s103 (tg:Bool) (t:Tags) (b:Broker) (a:Advert) (hs:Sized b) (hr:Rising b.seen) (hp:NamesP a.pred) :
  pcF D t103 [.agg [.int .i64 a.id.client,.int .i64 a.id.seq,ePred a.pred,.int .i64 a.parent],.iptr tg [.int .i64 b.me,eL t.near 1 cInt b.near,eL t.adverts 4 eAdvert b.adverts,eL t.seen 2 eID b.seen,eL t.entries 7 eEntry b.entries,eL t.owns 3 eOwn b.owns] 0]=some (.bool (!rightAdv b a)):=by
 obtain ⟨z1,z2,z3,z4,z5⟩:=hs
 have f:=fun {α:Type} (t:Bool) (sz:Nat) (e:α→DV) (xs:List α)=>(flat_eL t sz e xs).mono (show 1≤20 by decide)
 have hsn:=s57 (.int .i64 b.me) (eL t.near 1 cInt b.near) (eL t.adverts 4 eAdvert b.adverts) (eL t.entries 7 eEntry b.entries) (eL t.owns 3 eOwn b.owns) t.seen b.seen a.id.client a.id.seq hr (by omega) ((flat_int _ _).mono (by decide)) (f _ _ _ _) (f _ _ _ _) (f _ _ _ _) (f _ _ _ _)
 have hlk:=s104 (.int .i64 b.me) (eL t.adverts 4 eAdvert b.adverts) (eL t.seen 2 eID b.seen) (eL t.entries 7 eEntry b.entries) (eL t.owns 3 eOwn b.owns) t.near b.near a.parent (by omega)
 have hrt:=s105 a.pred hp
 obtain ⟨S,hS⟩:∃ S,decide (a.id∈b.seen)=S:=⟨_,rfl⟩
 obtain ⟨L,hL⟩:∃ L,linkB b a.parent=L:=⟨_,rfl⟩
 obtain ⟨R,hR⟩:∃ R,rightP a.pred=R:=⟨_,rfl⟩
 rw [show decide ((⟨a.id.client,a.id.seq⟩:ID)∈b.seen)=S from hS]at hsn
 rw [show (decide (a.parent=-1) || b.near.contains a.parent)=L from hL]at hlk
 rw [hR]at hrt
 unfold pcF
 rw [goRun_eq _ _ _ _ (by simp [t103])]
 cases S<;>cases L<;>cases R<;>simp [t103,e57,hsn,e104,hlk,e105,hrt,rightAdv,hS,hL,hR]
theorem s107 (tg:Bool) (t:Tags) (b:Broker) (e:Entry) (hs:Sized b) (hr:Rising (b.adverts.map (·.id))) (hp:NamesP e.pred) :
  pcF D t107 [.agg [.int .i64 e.tree.client,.int .i64 e.tree.seq,.int .i64 e.sub.client,.int .i64 e.sub.seq,ePred e.pred,.int .i64 e.frm,.bool e.up],.iptr tg [.int .i64 b.me,eL t.near 1 cInt b.near,eL t.adverts 4 eAdvert b.adverts,eL t.seen 2 eID b.seen,eL t.entries 7 eEntry b.entries,eL t.owns 3 eOwn b.owns] 0]=some (.bool (!rightEnt b e)):=by
 obtain ⟨z1,z2,z3,z4,z5⟩:=hs
 have f:=fun {α:Type} (t:Bool) (sz:Nat) (e:α→DV) (xs:List α)=>(flat_eL t sz e xs).mono (show 1≤20 by decide)
 have hre:=s108 b.me (eL t.seen 2 eID b.seen) (eL t.entries 7 eEntry b.entries) (eL t.owns 3 eOwn b.owns) t.adverts t.near b.near b.adverts e b rfl rfl hr (by omega) (by omega) (f _ _ _ _) (f _ _ _ _) (f _ _ _ _) hp
 unfold pcF
 rw [goRun_eq _ _ _ _ (by simp [t107])]
 simp [t107,e108,hre]
theorem s110 (a b:Int) (p:Pred) (hp:NamesP p):pcF D t110 [.agg [.int .i64 a,.int .i64 b,ePred p]]=some (.bool (!rightP p)):=by
 unfold pcF
 rw [goRun_eq _ _ _ _ (by simp [t110])]
 simp [t110,e105,s105,hp]
def rightRows (b:Broker):Bool :=
 risesB (fun x y=>decide (x<y)) b.near && risesB (fun x y=>ltID x y) b.seen && risesB (fun x y:Advert=>ltID x.id y.id) b.adverts && risesB (fun x y:OwnS=>ltID x.id y.id) b.owns && risesB ltE b.entries
def rightB (b:Broker):Bool :=
 rightRows b && !(b.adverts.any fun a=>!rightAdv b a) && !(b.entries.any fun e=>!rightEnt b e) && !(b.owns.any fun o=>!rightP o.pred)
set_option maxRecDepth 8000 in
theorem s27 (t:Tags) (b:Broker) (hs:Sized b) (hp:SizedN b):pcF D t27 [eBroker t b]=some (.bool (rightB b)):=by
 have hs':=hs
 obtain ⟨z1,z2,z3,z4,z5⟩:=hs'
 have q1:=s91 t.near b.near 92 (fun x y=>decide (x<y)) (fun x _ y _ h=>by simp [cInt,e92,s92]) (by omega)
 have q2:=s93 t.seen b.seen 56 (fun x y=>ltID x y) (fun x _ y _ h=>by simp [eID,e56,s56]) (by omega)
 have q3:=s94 t.adverts b.adverts 95 (fun x y=>ltID x.id y.id) (fun x _ y _ h=>by simp [eAdvert,e95,s95]) (by omega)
 have q4:=s96 t.owns b.owns 97 (fun x y=>ltID x.id y.id) (fun x _ y _ h=>by simp [eOwn,e97,s97]) (by omega)
 have q5:=s98 t.entries b.entries 99 ltE (fun x _ y _ h=>by simp [eEntry,e99,s99,ltE]) (by omega)
 have q8:=s109 t.owns b.owns 110 [] (fun o=>!rightP o.pred) (by simp) (fun x hx h=>by simp [eOwn,e110,s110,hp.own x hx]) (by omega)
 unfold pcF
 rw [goRun_eq _ _ _ _ (by simp [t27])]
 simp only [eBroker]
 cases h1:risesB (fun x y=>decide (x<y)) b.near with
 | false =>
  rw [h1]at q1
  simp [t27,e91,q1,rightB,rightRows,h1]
 | true =>
 rw [h1]at q1
 cases h2:risesB (fun x y=>ltID x y) b.seen with
 | false =>
  rw [h2]at q2
  simp [t27,e91,q1,e93,q2,rightB,rightRows,h1,h2]
 | true =>
 rw [h2]at q2
 cases h3:risesB (fun x y:Advert=>ltID x.id y.id) b.adverts with
 | false =>
  rw [h3]at q3
  simp [t27,e91,q1,e93,q2,e94,q3,rightB,rightRows,h1,h2,h3]
 | true =>
 rw [h3]at q3
 cases h4:risesB (fun x y:OwnS=>ltID x.id y.id) b.owns with
 | false =>
  rw [h4]at q4
  simp [t27,e91,q1,e93,q2,e94,q3,e96,q4,rightB,rightRows,h1,h2,h3,h4]
 | true =>
 rw [h4]at q4
 cases h5:risesB ltE b.entries with
 | false =>
  rw [h5]at q5
  simp [t27,e91,q1,e93,q2,e94,q3,e96,q4,e98,q5,rightB,rightRows,h1,h2,h3,h4,h5]
 | true =>
 rw [h5]at q5
 have rs:Rising b.seen:=by have:=rising_of (key:=fun a:ID=>a) h2;simpa using this
 have ra:Rising (b.adverts.map (·.id)):=rising_of (key:=fun a:Advert=>a.id) h3
 have q6:=s102 t.adverts b.adverts 103 [.iptr true [.int .i64 b.me,eL t.near 1 cInt b.near,eL t.adverts 4 eAdvert b.adverts,eL t.seen 2 eID b.seen,eL t.entries 7 eEntry b.entries,eL t.owns 3 eOwn b.owns] 0] (fun a=>!rightAdv b a) (fun x hx=>by
  simp only [List.mem_singleton]at hx;subst hx;exact (flat_iptr _ _ _).mono (by decide)) (fun x hx h=>by
  simp [eAdvert,e103,s103 true t b x hs rs (hp.adv x hx)]) (by omega)
 have q7:=s106 t.entries b.entries 107 [.iptr true [.int .i64 b.me,eL t.near 1 cInt b.near,eL t.adverts 4 eAdvert b.adverts,eL t.seen 2 eID b.seen,eL t.entries 7 eEntry b.entries,eL t.owns 3 eOwn b.owns] 0] (fun a=>!rightEnt b a) (fun x hx=>by
  simp only [List.mem_singleton]at hx;subst hx;exact (flat_iptr _ _ _).mono (by decide)) (fun x hx h=>by
  simp [eEntry,e107,s107 true t b x hs ra (hp.ent x hx)]) (by omega)
 cases h6:b.adverts.any (fun a=>!rightAdv b a)<;>rw [h6]at q6<;>cases h7:b.entries.any (fun a=>!rightEnt b a)<;>rw [h7]at q7<;>cases h8:b.owns.any (fun o=>!rightP o.pred)<;>rw [h8]at q8 <;>
  simp [t27,e91,q1,e93,q2,e94,q3,e96,q4,e98,q5,e102,q6,e106,q7,e109,q8,rightB,rightRows,h1,h2,h3,h4,h5,-List.any_eq_true,-List.any_eq_false,h6,h7,h8]
end Go.Dm.Tc
/-
What functions of the program compute,part 12: an advertisement forgotten.
-/
namespace Go.Dm.Tc
def without {α:Type} (key:α→ID) (x:ID) (l:List α):List α:=l.filter fun a=>!decide (key a=x)
theorem without_at {α:Type} (key:α→ID) {l:List α} (hr:Rising (l.map key)) {x:ID} {i:Nat} {a:α} (hi:l[i]?=some a) (ha:key a=x):l.take i++l.drop (i+1)=without key x l:=by
 have hlt:i<l.length:=by
  by_cases h:i<l.length
  ·exact h
  ·rw [List.getElem?_eq_none (by omega)]at hi;cases hi
 have hia:l[i]=a:=by rw [List.getElem?_eq_getElem hlt]at hi;exact Option.some.inj hi
 have hne:∀j (hj:j<l.length),j≠i→key l[j]≠x:=by
  intro j hj hji e
  rcases Nat.lt_or_gt_of_ne hji with h|h
  ·have:=List.pairwise_iff_getElem.1 hr j i (by simpa using hj) (by simpa using hlt) h
   simp only [List.getElem_map,hia,ha,e]at this
   rw [cmpID_lt]at this;omega
  ·have:=List.pairwise_iff_getElem.1 hr i j (by simpa using hlt) (by simpa using hj) h
   simp only [List.getElem_map,hia,ha,e]at this
   rw [cmpID_lt]at this;omega
 have h1:(l.take i).filter (fun a=>!decide (key a=x))=l.take i:=by
  rw [List.filter_eq_self]
  intro y hy
  obtain ⟨j,hj,rfl⟩:=List.mem_iff_getElem.1 hy
  rw [List.length_take]at hj
  have:=hne j (by omega) (by omega)
  simpa using this
 have h2:(l.drop (i+1)).filter (fun a=>!decide (key a=x))=l.drop (i+1):=by
  rw [List.filter_eq_self]
  intro y hy
  obtain ⟨j,hj,rfl⟩:=List.mem_iff_getElem.1 hy
  rw [List.length_drop]at hj
  have:=hne (i+1+j) (by omega) (by omega)
  simpa using this
 have h3:(l.drop i).filter (fun a=>!decide (key a=x))=l.drop (i+1):=by
  rw [List.drop_eq_getElem_cons hlt,List.filter_cons,hia,ha,h2];simp
 calc l.take i++l.drop (i+1)=(l.take i++l.drop i).filter (fun a=>!decide (key a=x)):=by rw [List.filter_append,h1,h3]
  _=_:=by rw [List.take_append_drop];rfl
def forgetB (b:Broker) (x:ID) (frm:Int):Broker×Bool :=
 match b.adverts.find? (fun a=>a.id=x) with
 | none=>(b,false)
 | some a=>if a.parent=frm then ({b with adverts:=without (fun a=>a.id) x b.adverts,entries:=without (fun e=>e.tree) x b.entries},true) else (b,false)
end Go.Dm.Tc
/-
What the reference's functions compute,part 3: an advertisement forgotten.
-/
namespace Go.Dm.Tc
theorem keep_trans {ety:Nat} {a b c:Heap} (x:Keep ety a b) (y:Keep ety b c):Keep ety a c:=fun k o hg hne=>y k o (x k o hg hne) hne
theorem l22 (S:List Fr) (h0:Heap) (c d:Int) (t:Bool) (ent:List Entry) (hl:ent.length≤1000000) (hlim:h0.lim=0) (hn:3≤h0.n) (g1:h0.get 1=some (.arr 37 2 [.agg [.int .i64 c,.int .i64 d]] (some 1))) :
  ∀(rest:List Entry) (i:Nat) (acc:List Entry) (f:FEnv) (h:Heap),ent.drop i=rest→acc.length≤i→f 3=.ptr 0 6 0 0→f 4=.ptr 1 2 0 0→f 6=.ptr 2 6 0 0→f 42=eL t 7 eEntry ent→f 43=.int .i64 ent.length→f 44=.int .i64 i →
   OwnR 3 h (f 9) 58 7 (acc.map eEntry)→Ext 3 h0 h→Keep 58 h0 h →
  ∃ f' h',run D 60 (.block 0::.seq t22k0::S) (.loop t22l0) f h=run D 60 S t22k0 f' h'∧f' 3=.ptr 0 6 0 0∧f' 6=.ptr 2 6 0 0∧OwnR 3 h' (f' 9) 58 7 ((acc++without (fun e=>e.tree) ⟨c,d⟩ rest).map eEntry)∧Ext 3 h0 h'∧Keep 58 h0 h':=by
 intro rest
 induction rest with
 | nil =>
  intro i acc f h hd ha h3 h4 h6 h42 h43 h44 ho hx hk
  have hi:=drop_nil hd
  have:¬(i<ent.length):=by omega
  rw [run_loop_of t22l0.eq_1]
  simp [h42,h43,h44,this]
  refine ⟨_,_,rfl,by simp [h3],by simp [h6],?_,hx,hk⟩
  simpa [without] using ho
 | cons e rest ih =>
  intro i acc f h hd ha h3 h4 h6 h42 h43 h44 ho hx hk
  obtain ⟨hi,he,hd'⟩:=drop_at hd
  have hlH:h.lim=0:=hx.lim.trans hlim
  have hg1:=(hx.get 1 (by decide)).trans g1
  have hnh:=hx.le
  have n1:¬1=h.n:=by omega
  have hw:IntKind.i64.wrap ((i:Int)+1)=(i:Int)+1:=wrap64 (by omega) (by omega)
  rw [run_loop_of t22l0.eq_1]
  by_cases hc:e.tree=⟨c,d⟩
  ·have hc1:e.tree.client=c:=by rw [hc]
   have hc2:e.tree.seq=d:=by rw [hc]
   simp [h3,h4,h6,h42,h43,h44,hi,he,hlH,hg1,n1,eEntry,hc1,hc2,hw]
   have hf:without (fun e:Entry=>e.tree) ⟨c,d⟩ (e::rest)=without (fun e:Entry=>e.tree) ⟨c,d⟩ rest:=by simp [without,hc]
   rw [hf,←List.map_append]
   generalize hF:upd _ 44 _=F
   refine ih (i+1) acc F _ hd' (by omega) ?_ ?_ ?_ ?_ ?_ ?_ ?_ hx.push hk.push
   ·rw [←hF];simp [h3]
   ·rw [←hF];simp [h4]
   ·rw [←hF];simp [h6]
   ·rw [←hF];simp [h42]
   ·rw [←hF];simp [h43]
   ·rw [←hF];simp
   ·rw [←hF];simp;exact ho.push
  ·have hc':¬(e.tree.client=c∧e.tree.seq=d):=fun q=>hc (by cases e with|mk t s p q u=>cases t;simp_all)
   have hcb:(e.tree.client == c && e.tree.seq == d)=false:=by
    cases hb:(e.tree.client == c && e.tree.seq == d) with
    | false=>rfl
    | true=>exact absurd (by simpa using hb) hc'
   simp [h3,h4,h6,h42,h43,h44,hi,he,hlH,hg1,n1,eEntry,hcb]
   generalize hA:appendD _ _ _ _ _ _=A
   obtain ⟨v',h',rfl,ho',hx',hk'⟩:=ho.push.push.append hx.push.push.wf (by simp;omega) (by simp [hlH]) hA (by simp;omega) (by decide)
   clear hA
   have hf:without (fun e:Entry=>e.tree) ⟨c,d⟩ (e::rest)=e::without (fun e:Entry=>e.tree) ⟨c,d⟩ rest:=by simp [without,hc]
   rw [hf]
   simp [h44,hw]
   generalize hF:upd _ 44 _=F
   have:=ih (i+1) (acc++[e]) F h' hd' (by simp;omega) (by rw [←hF];simp [h3]) (by rw [←hF];simp [h4]) (by rw [←hF];simp [h6]) (by rw [←hF];simp [h42]) (by rw [←hF];simp [h43]) (by rw [←hF];simp) (by rw [←hF];simp;simpa [eEntry] using ho') (hx.push.push.trans hx') (keep_trans hk.push.push hk')
   simpa using this
theorem find_idx {α:Type} (p:α→Bool) (l:List α):match l.find? p with
  | some a=>∃ i,l.findIdx? p=some i∧l[i]?=some a
  | none=>l.findIdx? p=none:=by
 cases h:l.find? p with
 | none=>simp only;rw [List.findIdx?_eq_none_iff];intro a ha;have:=List.find?_eq_none.1 h a ha;simpa using this
 | some a =>
  simp only
  have h1:=List.find?_some h
  cases hi:l.findIdx? p with
  | none=>rw [List.findIdx?_eq_none_iff]at hi;have:=hi a (List.mem_of_find?_eq_some h);rw [h1]at this;cases this
  | some i =>
   refine ⟨i,rfl,?_⟩
   obtain ⟨hl,hp,hq⟩:=List.findIdx?_eq_some_iff_getElem.1 hi
   obtain ⟨hpa,u1,u2,hab,hn⟩:=List.find?_eq_some_iff_append.1 h
   have:u1.length=i:=by
    rcases Nat.lt_trichotomy u1.length i with hlt|he|hgt
    ·have:=hq u1.length hlt
     subst hab
     simp [h1]at this
    ·exact he
    ·exfalso
     subst hab
     have:=hn (u1[i]'hgt) (List.getElem_mem hgt)
     rw [List.getElem_append_left hgt]at hp
     rw [hp]at this
     cases this
   subst hab
   rw [←this]
   simp
set_option maxRecDepth 8000 in
theorem s22 (b:Broker) (c d q:Int) (hs:Sized b) (ra:Rising (b.adverts.map (·.id))) :
  pcF D t22 [eBroker .none b,.agg [.int .i64 c,.int .i64 d],.int .i64 q]=some (.tup [eBroker .none (forgetB b ⟨c,d⟩ q).1,.bool (forgetB b ⟨c,d⟩ q).2]):=by
 obtain ⟨me,near,adv,seen,ent,own⟩:=b
 obtain ⟨z1,z2,z3,z4,z5⟩:=hs
 simp only at z1 z2 z3 z4 z5 ra
 obtain ⟨R,hR⟩:∃ R,R=DV.tup [eBroker .none (forgetB ⟨me,near,adv,seen,ent,own⟩ ⟨c,d⟩ q).1,.bool (forgetB ⟨me,near,adv,seen,ent,own⟩ ⟨c,d⟩ q).2]:=⟨_,rfl⟩
 rw [←hR]
 have hal:adv.length≤1000000:=by omega
 have hel:ent.length≤1000000:=by omega
 have hfi:=find_idx (fun a:Advert=>decide (a.id=⟨c,d⟩)) adv
 unfold pcF
 rw [goRun_eq _ _ _ _ (by simp [t22])]
 cases hq:adv.find? (fun a=>a.id=⟨c,d⟩) with
 | none =>
  rw [hq]at hfi
  simp only at hfi
  simp [t22,eBroker,Tags.none,e24,s24,hal,hfi,idxOf,resultsOf]
  simp [hR,forgetB,hq,Tags.none,eBroker]
 | some a =>
  rw [hq]at hfi
  simp only at hfi
  obtain ⟨i,hi,hia⟩:=hfi
  have hax:a.id=⟨c,d⟩:=by simpa using List.find?_some hq
  have hilt:i<adv.length:=by
   by_cases h:i<adv.length
   ·exact h
   ·rw [List.getElem?_eq_none (by omega)]at hia;cases hia
  have hneg:¬(i:Int)<0:=by omega
  have hw:IntKind.i64.wrap ((i:Int)+1)=(i:Int)+1:=wrap64 (by omega) (by omega)
  by_cases hpq:a.parent=q
  ·have hwo:=without_at (fun a:Advert=>a.id) ra hia hax
   simp [t22,eBroker,Tags.none,e24,s24,hal,hi,idxOf,hneg,hia,eAdvert,eq_true hpq,Nat.le_of_lt hilt,hw]
   have hil:i≤adv.length:=Nat.le_of_lt hilt
   generalize hA:appendD _ _ _ _ _ _=A
   obtain ⟨i1,K1,rfl,o1,x1,y1,j1⟩:=(OwnI.fresh (lo:=3) (ety:=42) (sz:=4) (xs:=[]) (cap:=some 0) (by simp) (by simp)).append (n:=0) rfl (by simp) (by simp) (by simp) hA (by simp;omega) (by decide)
   clear hA
   have a0:=x1.get 0 (by decide)
   have a1:=x1.get 1 (by decide)
   have a2:=x1.get 2 (by decide)
   have q1:=x1.lim
   have w1:=x1.wf
   have n1:=x1.le
   have u1:=o1.lo
   have m0:¬0=i1:=by omega
   have m1:¬i1=0:=by omega
   have m2:¬i1=1:=by omega
   have m3:¬1=i1:=by omega
   simp at a0 a1 a2 q1 o1
   simp [a0,a1,a2,q1,m0,m1,m2,m3,hil,hw,hilt,Nat.succ_le_of_lt hilt]
   generalize hA:appendD _ _ _ _ _ _=A
   obtain ⟨i2,K2,rfl,o2,x2,y2,j2⟩:=o1.append (by simp [hil]) w1 n1 (by omega) hA (by simp;omega) (by decide)
   clear hA
   have b0:=x2.get 0 (by decide)
   have b1:=x2.get 1 (by decide)
   have b2:=x2.get 2 (by decide)
   have q2:=x2.lim
   have w2:=x2.wf
   have n2:=x2.le
   have u2:=o2.lo
   rw [a0]at b0
   rw [a1]at b1
   rw [a2]at b2
   rw [q1]at q2
   have l2:0<K2.n:=by omega
   have hlen:(List.take i (List.map eAdvert adv)++List.drop (i+1) (List.map eAdvert adv))=(without (fun a=>a.id) ⟨c,d⟩ adv).map eAdvert:=by rw [←hwo];simp
   have o2':OwnI 3 K2 i2 42 4 ((without (fun a=>a.id) ⟨c,d⟩ adv).map eAdvert):=by rw [←hlen];exact o2
   have hlw:(without (fun a=>a.id) ⟨c,d⟩ adv).length=i+(adv.length-(i+1)):=by rw [←hwo];simp [Nat.min_eq_left hil]
   simp [b0,q2,w2,l2,turn]
   generalize hF:upd _ 44 _=F
   generalize hK:K2.set 0 _=K3
   have e0:K3.get 0=some (.arr 29 6 [.agg [.int .i64 me,eL false 1 cInt near,.sl i2 4 0 ((without (fun a=>a.id) ⟨c,d⟩ adv).map eAdvert).length,eL false 2 eID seen,eL false 7 eEntry ent,eL false 3 eOwn own]] (some 1)):=by
    rw [←hK];simp [w2,l2,hlw,Nat.min_eq_left hil]
   have e1:K3.get 1=some (.arr 37 2 [.agg [.int .i64 c,.int .i64 d]] (some 1)):=by
    rw [←hK];simp [w2,l2,b1]
   have e2:K3.get 2=some (.arr 29 6 [.agg [.int .i64 0,.nsl,.nsl,.nsl,.nsl,.nsl]] (some 1)):=by
    rw [←hK];simp [w2,l2,b2]
   have w3:WF K3:=by rw [←hK];exact w2.set
   have q3:K3.lim=0:=by rw [←hK];exact q2
   have n3:3≤K3.n:=by rw [←hK];exact n2
   have o3:OwnI 3 K3 i2 42 4 ((without (fun a=>a.id) ⟨c,d⟩ adv).map eAdvert):=by rw [←hK];exact o2'.setLow w2 (by decide) l2
   obtain ⟨f1,K4,k1,k2,k3,o4,x4,y4⟩:=l22 [] K3 c d false ent hel q3 n3 e1 ent 0 [] F K3 rfl (by simp) (by rw [←hF];simp) (by rw [←hF];simp) (by rw [←hF];simp) (by rw [←hF];simp) (by rw [←hF];simp) (by rw [←hF];simp) (by rw [←hF];simp;exact .nil rfl rfl) (.refl n3 w3) (.refl _ _)
   rw [k1]
   clear hF hK k1
   have c0:=x4.get 0 (by decide)
   have c2:=x4.get 2 (by decide)
   have q4:=x4.lim
   have w4:=x4.wf
   have n4:=x4.le
   rw [e0]at c0
   rw [e2]at c2
   rw [q3]at q4
   have l4:0<K4.n:=by omega
   have l42:2<K4.n:=by omega
   have s3:=o3.keep y4 x4.lim (by decide)
   simp only [List.nil_append]at o4
   have r3:=fun o o'=>((s3.toR.setLow (o:=o) w4 (by decide) l4).setLow (o:=o') w4.set (by decide) l42).resolve (n:=198) false (fun y _=>(plain_advert y).1) (by decide)
   have r4:=fun o o'=>((o4.setLow (o:=o) w4 (by decide) l4).setLow (o:=o') w4.set (by decide) l42).resolve (n:=198) false (fun y _=>(plain_entry y).1) (by decide)
   simp only [List.length_map]at c0 r3
   simp [t22k0,k2,k3,c0,c2,q4,w4,l4,l42,turn,o4.storable,o4.ecells,-res_sl_eq,r3,r4,resultsOf]
   simp [hR,forgetB,hq,hpq,Tags.none,eBroker]
  ·simp [t22,eBroker,Tags.none,e24,s24,hal,hi,idxOf,hneg,hia,eAdvert,hpq,resultsOf]
   simp [hR,forgetB,hq,hpq,Tags.none,eBroker,eAdvert]
end Go.Dm.Tc
/-
Calls that let go of rows,brought into form;closed runs.
-/
namespace Go.Dm.Tc
def consH:Option (DV×Heap)→(Heap→Option (List DV×Heap))→Option (List DV×Heap)
 | some (v,h),k=>match k h with|some (r,h')=>some (v::r,h')|none=>none
 | none,_=>none
def consL (v:DV):Option (List DV×Heap)→Option (List DV×Heap)
 | some (r,h)=>some (v::r,h)
 | none=>none
def aggH:Option (List DV×Heap)→Option (DV×Heap)
 | some (r,h)=>some (.agg r,h)
 | none=>none
theorem consL_some (v:DV) (r:List DV) (h:Heap):consL v (some (r,h))=some (v::r,h):=_root_.id rfl
theorem aggH_some (r:List DV) (h:Heap):aggH (some (r,h))=some (.agg r,h):=_root_.id rfl
theorem consH_some (v:DV) (h:Heap) (k:Heap→Option (List DV×Heap)):consH (some (v,h)) k=consL v (k h):=by
 simp only [consH];cases k h<;>rfl
theorem mapH_nil (f:Heap→DV→Option (DV×Heap)) (h:Heap):mapH f h []=some ([],h):=_root_.id rfl
theorem mapH_cons (f:Heap→DV→Option (DV×Heap)) (h:Heap) (v:DV) (r:List DV):mapH f h (v::r)=consH (f h v) (fun h1=>mapH f h1 r):=by
 simp only [mapH,consH]
 cases f h v with
 | none=>rfl
 | some p=>rfl
theorem frA_agg (h:Heap) (cs:List DV):freezeA h (.agg cs)=aggH (mapH freeze h cs):=by
 simp only [freezeA];cases mapH freeze h cs<;>rfl
theorem frA_int (h:Heap) (k:IntKind) (n:Int):freezeA h (.int k n)=some (.int k n,h):=_root_.id rfl
theorem frA_eL {α:Type} (h:Heap) (t:Bool) (sz:Nat) (e:α→DV) (xs:List α):freezeA h (eL t sz e xs)=some (eL t sz e xs,h):=by cases xs<;>rfl
theorem frA_pred (h:Heap) (p:Pred):freezeA h (ePred p)=some (ePred p,h):=frA_eL ..
theorem frA_str (h:Heap) (s:List UInt8):freezeA h (.str s)=some (.str s,h):=_root_.id rfl
theorem fr_int (h:Heap) (k:IntKind) (n:Int):freeze h (.int k n)=some (.int k n,h):=_root_.id rfl
theorem fr_bool (h:Heap) (b:Bool):freeze h (.bool b)=some (.bool b,h):=_root_.id rfl
theorem fr_nsl (h:Heap):freeze h .nsl=some (.nsl,h):=_root_.id rfl
theorem fr_eL {α:Type} (h:Heap) (t:Bool) (sz:Nat) (e:α→DV) (xs:List α):freeze h (eL t sz e xs)=some (eL t sz e xs,h):=by cases xs<;>rfl
theorem fr_pred (h:Heap) (p:Pred):freeze h (ePred p)=some (ePred p,h):=fr_eL ..
theorem fr_isl (h:Heap) (t:Bool) (sz:Nat) (xs:List DV):freeze h (.isl t sz xs)=some (.isl t sz xs,h):=_root_.id rfl
attribute [simp] consL_some aggH_some consH_some mapH_nil mapH_cons frA_agg frA_int frA_eL frA_pred frA_str fr_int fr_bool fr_nsl fr_eL fr_pred fr_isl callZ_some
theorem nn1 (n:Nat):(n=n+1)=False:=eq_false (by omega)
theorem mm1 (n:Nat):(n+1=n)=False:=eq_false (by omega)
theorem nn2 (n:Nat):(n=n+1+1)=False:=eq_false (by omega)
theorem mm2 (n:Nat):(n+1+1=n)=False:=eq_false (by omega)
theorem nn3 (n:Nat):(n=n+1+1+1)=False:=eq_false (by omega)
theorem mm3 (n:Nat):(n+1+1+1=n)=False:=eq_false (by omega)
theorem nn4 (n:Nat):(n=n+1+1+1+1)=False:=eq_false (by omega)
theorem mm4 (n:Nat):(n+1+1+1+1=n)=False:=eq_false (by omega)
theorem nn5 (n:Nat):(n=n+1+1+1+1+1)=False:=eq_false (by omega)
theorem mm5 (n:Nat):(n+1+1+1+1+1=n)=False:=eq_false (by omega)
theorem nn6 (n:Nat):(n=n+1+1+1+1+1+1)=False:=eq_false (by omega)
theorem mm6 (n:Nat):(n+1+1+1+1+1+1=n)=False:=eq_false (by omega)
theorem nn7 (n:Nat):(n=n+1+1+1+1+1+1+1)=False:=eq_false (by omega)
theorem mm7 (n:Nat):(n+1+1+1+1+1+1+1=n)=False:=eq_false (by omega)
theorem nn8 (n:Nat):(n=n+1+1+1+1+1+1+1+1)=False:=eq_false (by omega)
theorem mm8 (n:Nat):(n+1+1+1+1+1+1+1+1=n)=False:=eq_false (by omega)
theorem nn9 (n:Nat):(n=n+1+1+1+1+1+1+1+1+1)=False:=eq_false (by omega)
theorem mm9 (n:Nat):(n+1+1+1+1+1+1+1+1+1=n)=False:=eq_false (by omega)
theorem nn10 (n:Nat):(n=n+1+1+1+1+1+1+1+1+1+1)=False:=eq_false (by omega)
theorem mm10 (n:Nat):(n+1+1+1+1+1+1+1+1+1+1=n)=False:=eq_false (by omega)
theorem nn11 (n:Nat):(n=n+1+1+1+1+1+1+1+1+1+1+1)=False:=eq_false (by omega)
theorem mm11 (n:Nat):(n+1+1+1+1+1+1+1+1+1+1+1=n)=False:=eq_false (by omega)
theorem nn12 (n:Nat):(n=n+1+1+1+1+1+1+1+1+1+1+1+1)=False:=eq_false (by omega)
theorem mm12 (n:Nat):(n+1+1+1+1+1+1+1+1+1+1+1+1=n)=False:=eq_false (by omega)
attribute [simp] nn1 mm1 nn2 mm2 nn3 mm3 nn4 mm4 nn5 mm5 nn6 mm6 nn7 mm7 nn8 mm8 nn9 mm9 nn10 mm10 nn11 mm11 nn12 mm12
theorem pc_run {k n:Nat} {df:DFunc} {args ds:List DV} {d:DV} (he:∀args h,fc D k args h=callP D df h (args.mapM (resolve true h deepFuel))) (hd:args.mapM (resolve true heap0 deepFuel)=some ds) (hr:callD D n k args heap0=some (d,heap0)):pcF D df ds=some d:=by
 have h1:fc D k args heap0=some (d,heap0):=fc_some.2 ⟨n,hr⟩
 rw [he,hd,callP_some]at h1
 cases h2:pcF D df ds with
 | none=>rw [h2]at h1;cases h1
 | some x=>rw [h2,callR_some]at h1;injection h1 with h1;injection h1 with h1;rw [h1]
end Go.Dm.Tc
/-
Plain laws,part 1: predicates made of numbers are right;rows that rise stay so.
-/
namespace Go.Dm.Tc
theorem nameOk_names:∀nm∈namesL,nameOk nm=true∧nm.length≤1000000:=by decide
theorem texts_len:∀i:Nat,(textsL.getD i []).length≤3:=by
 intro i
 by_cases h:i<textsL.length
 ·have:∀x∈textsL,x.length≤3:=by decide
  rw [List.getD_eq_getElem?_getD,List.getElem?_eq_getElem h]
  exact this _ (List.getElem_mem h)
 ·rw [List.getD_eq_getElem?_getD,List.getElem?_eq_none (by omega)]
  simp
theorem mkCons_name (nm:List UInt8) (n:Int):(mkCons nm n).name=nm:=by unfold mkCons;split<;>rfl
theorem mkCons_right {nm:List UInt8} (h:nameOk nm=true) (n:Int):rightOne (mkCons nm n)=true:=by
 unfold mkCons
 split
 ·have b1:=within_bounds (IntKind.i64.wrap (n.tdiv 40)) (show (0:Int)≤9 by decide)
  simp only [rightOne,h,Bool.true_and,if_true]
  simp
  omega
 ·have ht:=texts_len (within (IntKind.i64.wrap (n.tdiv 4)) 0 6).toNat
  split
  ·simp only [rightOne,h,Bool.true_and]
   simp
   simp at ht
   omega
  ·simp only [rightOne,h,Bool.true_and]
   simp
   simp at ht
   omega
theorem rightA_snoc {c:Cons} (hc:rightOne c=true):∀(acc:Pred) (prev:Option (List UInt8)),rightA prev acc=true→(∀d∈acc,Go.Op.bytesLess d.name c.name=true)→(∀n,prev=some n→Go.Op.bytesLess n c.name=true)→rightA prev (acc++[c])=true
 | [],prev,_,_,hp=>by
  simp only [List.nil_append,rightA,hc,Bool.true_and,Bool.and_true]
  cases prev with
  | none=>rfl
  | some n=>exact hp n rfl
 | d::r,prev,h,hd,hp=>by
  simp only [rightA,Bool.and_eq_true]at h
  simp only [List.cons_append,rightA,Bool.and_eq_true]
  exact ⟨h.1,rightA_snoc hc r (some d.name) h.2 (fun x hx=>hd x (List.mem_cons_of_mem _ hx)) (fun n hn=>by injection hn with hn;rw [←hn];exact hd d (List.mem_cons_self ..))⟩
theorem mkPredA_right (has vals:List Int):∀(rest:List (List UInt8)) (i:Nat) (acc:Pred),(∀nm∈rest,nameOk nm=true∧nm.length≤1000000)→rest.Pairwise (fun a b=>Go.Op.bytesLess a b=true)→rightA none acc=true→acc.length≤5 →
  (∀d∈acc,d.name.length≤1000000∧∀nm∈rest,Go.Op.bytesLess d.name nm=true)→rightA none (mkPredA has vals rest i acc)=true∧(mkPredA has vals rest i acc).length≤5∧∀d∈mkPredA has vals rest i acc,d.name.length≤1000000
 | [],_,acc,_,_,h,hl,hd=>⟨h,hl,fun d hx=>(hd d hx).1⟩
 | nm::r,i,acc,hn,hp,h,hl,hd=>by
  rw [List.pairwise_cons]at hp
  simp only [mkPredA]
  split
  ·rename_i hc
   have hr:=mkCons_right (hn nm (List.mem_cons_self ..)).1 (pickI vals i)
   refine mkPredA_right has vals r (i+1) _ (fun x hx=>hn x (List.mem_cons_of_mem _ hx)) hp.2 (rightA_snoc hr acc none h (fun d hx=>by rw [mkCons_name];exact (hd d hx).2 nm (List.mem_cons_self ..)) (fun n e=>by cases e)) (by simp;omega) ?_
   intro d hx
   rcases List.mem_append.1 hx with hx|hx
   ·exact ⟨(hd d hx).1,fun y hy=>(hd d hx).2 y (List.mem_cons_of_mem _ hy)⟩
   ·simp only [List.mem_singleton]at hx
    subst hx
    rw [mkCons_name]
    exact ⟨(hn nm (List.mem_cons_self ..)).2,fun y hy=>hp.1 y hy⟩
  ·exact mkPredA_right has vals r (i+1) acc (fun x hx=>hn x (List.mem_cons_of_mem _ hx)) hp.2 h hl (fun d hx=>⟨(hd d hx).1,fun y hy=>(hd d hx).2 y (List.mem_cons_of_mem _ hy)⟩)
structure PredOk (p:Pred):Prop where
 right:rightP p=true
 names:NamesP p
 len:p.length≤5
theorem mkPred_ok (has vals:List Int):PredOk (mkPred has vals):=by
 obtain ⟨h1,h2,h3⟩:=mkPredA_right has vals namesL 0 [] nameOk_names (by decide) rfl (by simp) (by simp)
 exact ⟨by unfold rightP;rw [show rightA none (mkPred has vals)=true from h1,Bool.true_and];exact decide_eq_true h2,⟨Nat.le_trans h2 (by decide),h3⟩,h2⟩
theorem ins_rising {α:Type} (key:α→ID) (a:α) {l:List α} (h:Rising (l.map key)) (hn:∀b∈l,key b≠key a):Rising ((insAt key a l).map key):=by
 obtain ⟨r1,r2⟩:=rising_low key h (key a)
 have hp:l.Pairwise fun x y=>cmpID (key x) (key y)<0:=by unfold Rising at h;exact List.pairwise_map.1 h
 unfold Rising insAt
 rw [List.pairwise_map,List.pairwise_append,List.pairwise_cons]
 generalize hk:lowIdx (fun b=>cmpID (key b) (key a)) l=k at *
 have hlow:∀b∈l.take k,cmpID (key b) (key a)<0:=by
  intro b hb
  obtain ⟨i,hi,rfl⟩:=List.mem_iff_getElem.1 hb
  rw [List.getElem_take]
  rw [List.length_take]at hi
  exact r1 i (by omega) (by omega)
 have hhigh:∀b∈l.drop k,cmpID (key a) (key b)<0:=by
  intro b hb
  obtain ⟨i,hi,rfl⟩:=List.mem_iff_getElem.1 hb
  rw [List.length_drop]at hi
  rw [List.getElem_drop]
  have:=r2 (k+i) (by omega) (by omega)
  rcases cmpID_tri (key l[k+i]) (key a) with h1|h1|h1
  ·exact absurd h1 this
  ·exact absurd h1 (hn _ (List.getElem_mem _))
  ·exact h1
 refine ⟨hp.sublist (List.take_sublist ..),⟨fun b hb=>hhigh b hb,hp.sublist (List.drop_sublist ..)⟩,?_⟩
 intro x hx y hy
 rcases List.mem_cons.1 hy with rfl|hy
 ·exact hlow x hx
 ·exact cmpID_trans (hlow x hx) (hhigh y hy)
theorem ins_mem {α:Type} (key:α→ID) (a:α) (l:List α) (b:α):b∈insAt key a l↔b=a∨b∈l:=by
 unfold insAt
 rw [List.mem_append,List.mem_cons]
 constructor
 ·rintro (h|h|h)
  ·exact .inr (List.mem_of_mem_take h)
  ·exact .inl h
  ·exact .inr (List.mem_of_mem_drop h)
 ·rintro (h|h)
  ·exact .inr (.inl h)
  ·rw [←List.take_append_drop (lowIdx (fun b=>cmpID (key b) (key a)) l) l,List.mem_append]at h
   exact h.elim .inl fun h=>.inr (.inr h)
theorem ins_len {α:Type} (key:α→ID) (a:α) (l:List α):(insAt key a l).length=l.length+1:=by
 unfold insAt
 rw [List.length_append,List.length_cons,List.length_take,List.length_drop]
 have:=lowIdx_le (fun b=>cmpID (key b) (key a)) l
 omega
theorem without_rising {α:Type} (key:α→ID) {l:List α} (x:ID) (h:Rising (l.map key)):Rising ((without key x l).map key):=by
 unfold Rising at *
 rw [List.pairwise_map]at *
 exact h.sublist (List.filter_sublist ..)
theorem without_mem {α:Type} {key:α→ID} {x:ID} {l:List α} {a:α} (h:a∈without key x l):a∈l∧key a≠x:=by
 have:=List.mem_filter.1 h
 simpa using this
theorem without_len {α:Type} (key:α→ID) (x:ID) (l:List α):(without key x l).length≤l.length:=List.length_filter_le ..
end Go.Dm.Tc
/-
Plain laws,part 2: a broker that was told of advertisements alone;sets of IDs as maps.
-/
namespace Go.Dm.Tc
structure InvB (m0:Int) (nr:List Int) (b:Broker) (n:Nat):Prop where
 me:b.me=m0
 near:b.near=nr
 ent:b.entries=[]
 own:b.owns=[]
 ra:Rising (b.adverts.map (·.id))
 rs:Rising b.seen
 la:b.adverts.length≤n
 ls:b.seen.length≤n
 sub:∀a∈b.adverts,a.id∈b.seen
 par:∀a∈b.adverts,a.parent=-1∨a.parent∈nr
 prd:∀a∈b.adverts,PredOk a.pred
section
variable {me:Int} {near:List Int} {b:Broker} {n:Nat}
theorem InvB.start (me:Int) (near:List Int):InvB me near ⟨me,near,[],[],[],[]⟩ 0:=⟨rfl,rfl,rfl,rfl,List.Pairwise.nil,List.Pairwise.nil,Nat.le_refl _,Nat.le_refl _,fun a h=>(by cases h),fun a h=>(by cases h),fun a h=>(by cases h)⟩
theorem InvB.mono {m:Nat} (h:InvB me near b n) (hm:n≤m):InvB me near b m:={h with la:=Nat.le_trans h.la hm,ls:=Nat.le_trans h.ls hm}
theorem InvB.learn (h:InvB me near b n) (a:Advert) (hp:a.parent=-1∨a.parent∈near) (hr:PredOk a.pred):InvB me near (learnB b a).1 (n+1):=by
 unfold learnB
 split
 ·exact h.mono (Nat.le_succ n)
 ·rename_i hm
  refine ⟨h.me,h.near,h.ent,h.own,?_,?_,?_,?_,?_,?_,?_⟩
  ·exact ins_rising (fun a:Advert=>a.id) a h.ra (fun b hb e=>hm (by rw [←e];exact h.sub b hb))
  ·have:=ins_rising (fun x:ID=>x) a.id (l:=b.seen) (by simpa using h.rs) (fun b hb e=>hm (by rw [←e];exact hb))
   simpa using this
  ·simp only [ins_len];exact Nat.succ_le_succ h.la
  ·simp only [ins_len];exact Nat.succ_le_succ h.ls
  ·intro x hx
   rw [ins_mem]at hx ⊢
   rcases hx with rfl|hx
   ·exact .inl rfl
   ·exact .inr (h.sub x hx)
  ·intro x hx
   rw [ins_mem]at hx
   rcases hx with rfl|hx
   ·exact hp
   ·exact h.par x hx
  ·intro x hx
   rw [ins_mem]at hx
   rcases hx with rfl|hx
   ·exact hr
   ·exact h.prd x hx
theorem InvB.forget (h:InvB me near b n) (x:ID) (q:Int):InvB me near (forgetB b x q).1 n:=by
 unfold forgetB
 split
 ·exact h
 ·split
  ·refine ⟨h.me,h.near,?_,h.own,without_rising _ x h.ra,h.rs,Nat.le_trans (without_len ..) h.la,h.ls,fun a ha=>h.sub a (without_mem ha).1,fun a ha=>h.par a (without_mem ha).1,fun a ha=>h.prd a (without_mem ha).1⟩
   simp [h.ent,without]
  ·exact h
theorem InvB.sized (h:InvB me near b n) (hn:n≤1000) (hl:near.length≤1000):Sized b:=⟨by rw [h.near];omega,by have:=h.la;omega,by have:=h.ls;omega,by rw [h.ent];decide,by rw [h.own];decide⟩
theorem InvB.sizedP (h:InvB me near b n):SizedP b:=⟨fun a ha=>(h.prd a ha).names.1,fun a ha=>(by rw [h.ent]at ha;cases ha),fun a ha=>(by rw [h.own]at ha;cases ha)⟩
theorem InvB.sizedN (h:InvB me near b n):SizedN b:=⟨fun a ha=>(h.prd a ha).names,fun a ha=>(by rw [h.ent]at ha;cases ha),fun a ha=>(by rw [h.own]at ha;cases ha)⟩
theorem InvB.right (h:InvB me near b n) (hn:risesB (fun x y=>decide (x<y)) near=true):rightB b=true:=by
 unfold rightB rightRows
 rw [h.near,h.ent,h.own,of_rising (key:=fun a:Advert=>a.id) h.ra,show risesB (fun x y=>ltID x y) b.seen=true from of_rising (key:=fun a:ID=>a) (by simpa using h.rs),hn]
 have:(b.adverts.any fun a=>!rightAdv b a)=false:=by
  rw [List.any_eq_false]
  intro a ha
  have h1:=h.sub a ha
  have h2:=h.par a ha
  have h3:=(h.prd a ha).right
  have h4:linkB b a.parent=true:=by
   unfold linkB
   rw [h.near]
   rcases h2 with e|e
   ·simp [e]
   ·simp [e]
  simp [rightAdv,h1,h3,h4]
 rw [this]
 rfl
end
def entO:Option DO→Option (List (DV×DV))
 | some (.mp es)=>some es
 | _=>none
theorem entriesV_map (h:Heap) (id:Nat):entriesV h (.map id)=entO (h.get id):=by
 simp only [entriesV,entO]
 cases h.get id with
 | none=>rfl
 | some o=>cases o<;>rfl
theorem entO_some (es:List (DV×DV)):entO (some (.mp es))=some es:=_root_.id rfl
def updO (h:Heap) (q:EqT) (id:Nat) (k x:DV):Option DO→Option Heap
 | some (.mp es)=>if h.lim≤id∧(eqBy q k k).isSome=true then
   match findU q k es with
   | some (some (i,_))=>some (h.set id (.mp (es.set i (k,x))))
   | some none=>some (h.set id (.mp (es++[(k,x)])))
   | none=>none
  else none
 | _=>none
theorem updateV_map (h:Heap) (q:EqT) (id:Nat) (k x:DV):updateV h q (.map id) k x=updO h q id k x (h.get id):=by
 simp only [updateV,updO]
 cases h.get id with
 | none=>rfl
 | some o=>cases o<;>rfl
end Go.Dm.Tc
/-
What functions of the program compute,part 13: is a constraint wider than another one?
-/
namespace Go.Dm.Tc
def beginsS (s p:List UInt8):Bool:=decide (p.length≤s.length) && (s.take p.length == p)
theorem s198 (s p:List UInt8):pcF D t198 [.str s,.str p]=some (.bool (beginsS s p)):=by
 unfold pcF
 rw [goRun_eq _ _ _ _ (by simp [t198])]
 by_cases h:p.length≤s.length
 ·have hs:sliceStrV (.str s) none (some (.int .i64 (p.length:Int)))=some (.str (s.take p.length)):=by
   simp only [sliceStrV]
   rw [boundV_nat _ _ _ _ h]
   simp only [boundV_none]
   simp
  simp [t198,h,hs,beginsS]
 ·simp [t198,h,beginsS]
theorem s188 (s p:List UInt8):pcF D t188 [.str s,.str p]=some (.bool (beginsS s p)):=by
 unfold pcF
 rw [goRun_eq _ _ _ _ (by simp [t188])]
 by_cases h:p.length≤s.length
 ·have hs:sliceStrV (.str s) none (some (.int .i64 (p.length:Int)))=some (.str (s.take p.length)):=by
   simp only [sliceStrV]
   rw [boundV_nat _ _ _ _ h]
   simp only [boundV_none]
   simp
  simp [t188,h,hs,beginsS]
 ·simp [t188,h,beginsS]
theorem s166 (s p:List UInt8):pcF D t166 [.str s,.str p]=some (.bool (beginsS s p)):=by
 unfold pcF
 rw [goRun_eq _ _ _ _ (by simp [t166])]
 simp [t166,e198,s198]
theorem s168 (s:List UInt8):pcF D t168 [.str s]=some (eVal ⟨true,0,s⟩):=by
 unfold pcF
 rw [goRun_eq _ _ _ _ (by simp [t168])]
 simp [t168,turn,eVal]
def holdsT (c:Cons) (s:List UInt8):Bool:=if c.kind=2 then s == c.text else if c.kind=3 then beginsS s c.text else false
theorem s167 (nm:List UInt8) (k lo hi:Int) (tx:List UInt8) (s:List UInt8) :
  pcF D t167 [.agg [.str nm,.int .i64 k,.int .i64 lo,.int .i64 hi,.str tx],.agg [.bool true,.int .i64 0,.str s]]=some (.bool (holdsT ⟨nm,k,lo,hi,tx⟩ s)):=by
 unfold pcF
 rw [goRun_eq _ _ _ _ (by simp [t167])]
 by_cases k1:k=1
 ·subst k1
  simp [t167,holdsT]
 ·by_cases k2:k=2
  ·subst k2
   simp [t167,holdsT]
  ·by_cases k3:k=3
   ·subst k3
    simp [t167,holdsT,e166,s166]
   ·simp [t167,holdsT,k1,k2,k3]
def widerC (c x:Cons):Bool :=
 if x.kind=1 then decide (c.kind=1) && decide (c.lo≤x.lo) && decide (x.hi≤c.hi)
 else if x.kind=3 then decide (c.kind=3) && beginsS x.text c.text
 else if x.kind=2 then holdsT c x.text
 else false
theorem s130 (c x:Cons):pcF D t130 [.agg [.str c.name,.int .i64 c.kind,.int .i64 c.lo,.int .i64 c.hi,.str c.text],.agg [.str x.name,.int .i64 x.kind,.int .i64 x.lo,.int .i64 x.hi,.str x.text]]=some (.bool (widerC c x)):=by
 obtain ⟨nm,k,lo,hi,tx⟩:=c
 obtain ⟨nm',k',lo',hi',tx'⟩:=x
 unfold pcF
 rw [goRun_eq _ _ _ _ (by simp [t130])]
 simp only
 by_cases k1:k'=1
 ·subst k1
  by_cases j:k=1
  ·by_cases h1:lo≤lo'
   ·simp [t130,widerC,j,h1]
   ·simp [t130,widerC,j,h1]
  ·simp [t130,widerC,j]
 ·by_cases k3:k'=3
  ·subst k3
   by_cases j:k=3
   ·simp [t130,widerC,j,e166,s166]
   ·simp [t130,widerC,j]
  ·by_cases k2:k'=2
   ·subst k2
    simp [t130,widerC,e168,s168,eVal,e167,s167]
   ·simp [t130,widerC,k1,k2,k3]
end Go.Dm.Tc
/-
What functions of the program compute,part 14: does a predicate cover another one?
-/
namespace Go.Dm.Tc
def eNames (p:Pred):List (DV×DV):=p.map fun c=>(.str c.name,.agg [.str c.name,.int .i64 c.kind,.int .i64 c.lo,.int .i64 c.hi,.str c.text])
theorem hits_nameN (s:List UInt8):∀{p:Pred},(∀c∈p,c.name≠s)→hitsE (.prim 2) (.str s) (eNames p)=some 0
 | [],_=>rfl
 | y::r,h=>by
  have h1:(s == y.name)=false:=beq_eq_false_iff_ne.2 fun e=>h y (List.mem_cons_self ..) e.symm
  have ih:=hits_nameN s (p:=r) fun c hc=>h c (List.mem_cons_of_mem _ hc)
  simp only [eNames,List.map_cons,hitsE,eqBy_prim,primEq_str,h1]
  rw [show hitsE _ _ (r.map _)=some 0 from ih]
theorem find_nameN (s:List UInt8):∀{p:Pred} (i:Nat),(∀c∈p,c.name≠s)→findE (.prim 2) (.str s) (eNames p) i=some none
 | [],_,_=>rfl
 | y::r,i,h=>by
  have h1:(s == y.name)=false:=beq_eq_false_iff_ne.2 fun e=>h y (List.mem_cons_self ..) e.symm
  have ih:=find_nameN s (p:=r) (i+1) fun c hc=>h c (List.mem_cons_of_mem _ hc)
  simp only [eNames,List.map_cons,findE,eqBy_prim,primEq_str,h1]
  exact ih
def Unlike (p:Pred):Prop:=p.Pairwise fun a b=>a.name≠b.name
theorem hits_nameS (s:List UInt8):∀{p:Pred} {c:Cons},Unlike p→p.find? (fun c=>decide (c.name=s))=some c→hitsE (.prim 2) (.str s) (eNames p)=some 1
 | [],_,_,h=>by cases h
 | y::r,c,hu,h=>by
  unfold Unlike at hu
  rw [List.pairwise_cons]at hu
  simp only [eNames,List.map_cons,hitsE,eqBy_prim,primEq_str]
  by_cases h1:y.name=s
  ·rw [show (s == y.name)=true by rw [h1];simp,show hitsE _ _ (r.map _)=some 0 from hits_nameN s fun c hc e=>hu.1 c hc (by rw [h1,e])]
  ·rw [show (s == y.name)=false from beq_eq_false_iff_ne.2 fun e=>h1 e.symm]
   rw [List.find?_cons,decide_eq_false h1]at h
   rw [show hitsE _ _ (r.map _)=some 1 from hits_nameS s hu.2 h]
theorem find_nameS (s:List UInt8):∀{p:Pred} {c:Cons} (i:Nat),p.find? (fun c=>decide (c.name=s))=some c→∃ j,findE (.prim 2) (.str s) (eNames p) i=some (some (j,.agg [.str c.name,.int .i64 c.kind,.int .i64 c.lo,.int .i64 c.hi,.str c.text]))
 | [],_,_,h=>by cases h
 | y::r,c,i,h=>by
  simp only [eNames,List.map_cons,findE,eqBy_prim,primEq_str]
  by_cases h1:y.name=s
  ·rw [List.find?_cons,decide_eq_true h1]at h
   simp only [Option.some.injEq]at h
   subst h
   rw [show (s == y.name)=true by rw [h1];simp]
   exact ⟨i,rfl⟩
  ·rw [List.find?_cons,decide_eq_false h1]at h
   rw [show (s == y.name)=false from beq_eq_false_iff_ne.2 fun e=>h1 e.symm]
   exact find_nameS s (i+1) h
theorem lookup_name {p:Pred} (hu:Unlike p) (z:DV) (s:List UInt8):lookupV (.prim 2) z true (.str s) (some (eNames p))=some (match p.find? (fun c=>decide (c.name=s)) with
  | some c=>.tup [.agg [.str c.name,.int .i64 c.kind,.int .i64 c.lo,.int .i64 c.hi,.str c.text],.bool true]
  | none=>.tup [z,.bool false]):=by
 have he:(eqBy (.prim 2) (.str s) (.str s)).isSome=true:=by simp
 simp only [lookupV,he,if_true]
 cases hf:p.find? (fun c=>decide (c.name=s)) with
 | none =>
  have hn:∀c∈p,c.name≠s:=fun c hc=>by simpa using List.find?_eq_none.1 hf c hc
  simp only [findU,hits_nameN s hn,find_nameN s 0 hn]
  rfl
 | some c =>
  obtain ⟨j,hj⟩:=find_nameS s 0 hf
  simp only [findU,hits_nameS s hu hf,hj]
  rfl
theorem upd_name {h:Heap} {id:Nat} {p:Pred} {c:Cons} (hn:∀d∈p,d.name≠c.name) (hl:h.lim≤id):updO h (.prim 2) id (.str c.name) (.agg [.str c.name,.int .i64 c.kind,.int .i64 c.lo,.int .i64 c.hi,.str c.text]) (some (.mp (eNames p)))=some (h.set id (.mp (eNames (p++[c])))):=by
 have he:(eqBy (.prim 2) (.str c.name) (.str c.name)).isSome=true:=by simp
 simp only [updO,he,hl,and_self,if_true,findU,hits_nameN c.name hn,find_nameN c.name 0 hn]
 simp [eNames]
def coversP (a b:Pred):Bool:=a.all fun c=>match b.find? (fun x=>decide (x.name=c.name)) with
 | some x=>widerC c x
 | none=>false
theorem l54 (S:List Fr) (b:Pred) (hb:Unlike b) (hl:b.length≤1000000) (a:Pred) :
  ∀(rest done:Pred) (i:Nat) (f:FEnv) (h:Heap),b=done++rest→done.length=i→f 0=eL false 5 eCons a→f 5=.map 0→f 13=eL false 5 eCons b→f 14=.int .i64 b.length→f 15=.int .i64 i→h.get 0=some (.mp (eNames done))→h.lim=0→1≤h.n→WF h →
  ∃ f' h',run D 46 (.block 0::.seq t54k1::S) (.loop t54l0) f h=run D 46 S t54k1 f' h'∧f' 0=eL false 5 eCons a∧f' 5=.map 0∧h'.get 0=some (.mp (eNames b))∧h'.lim=0∧1≤h'.n∧WF h':=by
 intro rest
 induction rest with
 | nil =>
  intro done i f h hd hi h0 h5 h13 h14 h15 g hlim hn wf
  have:¬(i<b.length):=by rw [hd];simp;omega
  rw [run_loop_of t54l0.eq_1]
  simp [h14,h15,this]
  exact ⟨_,_,rfl,by simp [h0],by simp [h5],by rw [hd];simpa using g,hlim,hn,wf⟩
 | cons c rest ih =>
  intro done i f h hd hi h0 h5 h13 h14 h15 g hlim hn wf
  have hlt:i<b.length:=by rw [hd];simp;omega
  have he:b[i]=c:=by simp only [hd];rw [List.getElem_append_right (by omega)];simp [hi]
  have hnd:∀d∈done,d.name≠c.name:=by
   intro d hdm
   unfold Unlike at hb
   rw [hd,List.pairwise_append]at hb
   exact hb.2.2 d hdm c (List.mem_cons_self ..)
  have n0:¬0=h.n:=by omega
  have l0:0<h.n:=by omega
  have m0:¬h.n=0:=by omega
  have hup:=fun (H:Heap) (hl:H.lim≤0)=>upd_name (h:=H) (id:=0) (p:=done) (c:=c) hnd hl
  rw [run_loop_of t54l0.eq_1]
  simp [h5,h13,h14,h15,hlt,he,eCons,hlim,n0,m0,l0,g,wf,updateV_map,hup]
  rw [wrap64 (by omega) (by omega)]
  generalize hF:upd _ 15 _=F
  refine ih (done++[c]) (i+1) F _ (by rw [hd];simp) (by simp [hi]) ?_ ?_ ?_ ?_ ?_ ?_ ?_ ?_ ?_
  ·rw [←hF];simp [h0]
  ·rw [←hF];simp [h5]
  ·rw [←hF];simp [h13]
  ·rw [←hF];simp [h14]
  ·rw [←hF];simp
  ·simp [n0,m0,l0,wf]
  ·simp [hlim]
  ·simp
  ·simp [wf]
theorem m54 (a b:Pred) (hb:Unlike b) (hl:a.length≤1000000) :
  ∀(rest:Pred) (i:Nat) (f:FEnv) (h:Heap),a.drop i=rest→f 5=.map 0→f 24=eL false 5 eCons a→f 25=.int .i64 a.length→f 26=.int .i64 i→h.get 0=some (.mp (eNames b))→h.lim=0→1≤h.n→WF h →
  pcOut (fin [.t 4] (run D 46 [.block 2,.seq t54k0] (.loop t54l1) f h))=some (.bool (coversP rest b)):=by
 intro rest
 induction rest with
 | nil =>
  intro i f h hd h5 h24 h25 h26 g hlim hn wf
  have hi:=drop_nil hd
  have:¬(i<a.length):=by omega
  rw [run_loop_of t54l1.eq_1]
  simp [t54k0,h25,h26,this,coversP]
 | cons c rest ih =>
  intro i f h hd h5 h24 h25 h26 g hlim hn wf
  obtain ⟨hi,he,hd'⟩:=drop_at hd
  have n0:¬0=h.n:=by omega
  have m0:¬h.n=0:=by omega
  have hlk:=fun z=>lookup_name hb z c.name
  rw [run_loop_of t54l1.eq_1]
  cases hf:b.find? (fun x=>decide (x.name=c.name)) with
  | none =>
   rw [hf]at hlk
   simp [h5,h24,h25,h26,hi,he,eCons,hlim,n0,m0,g,wf,entriesV_map,entO_some,hlk,turn,coversP,hf]
  | some x =>
   rw [hf]at hlk
   cases hw:widerC c x with
   | false=>simp [h5,h24,h25,h26,hi,he,eCons,hlim,n0,m0,g,wf,entriesV_map,entO_some,hlk,turn,coversP,hf,e130,s130,hw]
   | true =>
    simp [h5,h24,h25,h26,hi,he,eCons,hlim,n0,m0,g,wf,entriesV_map,entO_some,hlk,turn,e130,s130,hw]
    rw [wrap64 (by omega) (by omega)]
    refine (ih (i+1) _ _ hd' ?_ ?_ ?_ ?_ ?_ ?_ ?_ ?_).trans ?_<;>simp [h5,h24,h25,eCons,g,hlim,n0,m0,wf,coversP,hf,hw]<;>omega
theorem s54 (a b:Pred) (hb:Unlike b) (hla:a.length≤1000000) (hlb:b.length≤1000000):pcF D t54 [ePred a,ePred b]=some (.bool (coversP a b)):=by
 unfold pcF
 rw [goRun_eq _ _ _ _ (by simp [t54])]
 simp only [ePred]
 simp [t54]
 generalize hF:upd _ 15 _=F
 obtain ⟨f',h',k1,k2,k3,k4,k5,k6,k7⟩:=l54 [] b hb hlb a b [] 0 F (heap0.push (.mp [])) (by simp) rfl (by rw [←hF];simp) (by rw [←hF];simp) (by rw [←hF];simp) (by rw [←hF];simp) (by rw [←hF];simp) (by simp [eNames]) (by simp) (by simp) (by simp)
 rw [k1]
 clear hF k1
 simp [t54k1,k2]
 refine (m54 a b hb hla a 0 _ h' rfl ?_ ?_ ?_ ?_ k4 k5 k6 k7)<;>simp [k3]
end Go.Dm.Tc
/-
What functions of the program compute,part 15: an entry's place;an entry found;a tree's entries.
-/
namespace Go.Dm.Tc
def sgnE (tree sub:ID) (e:Entry):Int:=if e.tree=tree∧e.sub=sub then 0 else if ltID e.tree tree=true∨(e.tree=tree∧ltID e.sub sub=true) then -1 else 1
theorem ltID_iff {a b:ID}:ltID a b=true↔a.client<b.client∨a.client=b.client∧a.seq<b.seq:=by
 unfold ltID;rw [decide_eq_true_iff,cmpID_lt]
theorem ID.ext' {a b:ID}:a=b↔a.client=b.client∧a.seq=b.seq:=by cases a;cases b;simp
theorem sgnE_lt {tree sub:ID} {e:Entry}:sgnE tree sub e<0↔ltID e.tree tree=true∨(e.tree=tree∧ltID e.sub sub=true):=by
 unfold sgnE
 split
 ·rename_i h
  rw [h.1,h.2,ltID_iff,ltID_iff]
  constructor
  ·intro q;omega
  ·rintro (q|⟨_,q⟩)<;>omega
 ·split
  ·rename_i h;exact ⟨fun _=>h,fun _=>by decide⟩
  ·rename_i h;exact ⟨fun q=>by omega,fun q=>absurd q h⟩
theorem sgnE_eq {tree sub:ID} {e:Entry}:sgnE tree sub e=0↔e.tree=tree∧e.sub=sub:=by
 unfold sgnE
 split
 ·rename_i h;exact ⟨fun _=>h,fun _=>rfl⟩
 ·rename_i h
  split<;>exact ⟨fun q=>by omega,fun q=>absurd q h⟩
theorem ltE_sgn (a b:Entry):ltE a b=true↔sgnE b.tree b.sub a<0:=by
 rw [sgnE_lt,ltID_iff,ltID_iff]
 unfold ltE cmpE orI
 rw [decide_eq_true_iff]
 split
 ·rename_i h
  rw [cmpID_eq]at h
  rw [cmpID_lt,h]
  constructor
  ·intro q;exact .inr ⟨rfl,q⟩
  ·rintro (q|⟨_,q⟩)
   ·omega
   ·exact q
 ·rename_i h
  rw [cmpID_eq]at h
  rw [cmpID_lt]
  constructor
  ·intro q;exact .inl q
  ·rintro (q|⟨q,_⟩)
   ·exact q
   ·exact absurd q h
def RisingE (l:List Entry):Prop:=l.Pairwise fun a b=>sgnE b.tree b.sub a<0
theorem sgnE_trans {t s:ID} {a b:Entry} (h1:sgnE b.tree b.sub a<0) (h2:sgnE t s b≤0):sgnE t s a<0:=by
 rw [sgnE_lt,ltID_iff,ltID_iff]at *
 by_cases h0:sgnE t s b=0
 ·rw [sgnE_eq]at h0
  rw [h0.1,h0.2]at h1
  exact h1
 ·have h3:sgnE t s b<0:=by omega
  rw [sgnE_lt,ltID_iff,ltID_iff]at h3
  rw [ID.ext']at *
  omega
theorem monoE {l:List Entry} (h:RisingE l) (t s:ID):∀i j (hi:i<l.length) (hj:j<l.length),i≤j→sgnE t s l[j]<0→sgnE t s l[i]<0:=by
 intro i j hi hj hij hlt
 rcases Nat.lt_or_eq_of_le hij with hl|rfl
 ·exact sgnE_trans (List.pairwise_iff_getElem.1 h i j hi hj hl) (by omega)
 ·exact hlt
theorem of_risesE:∀{l:List Entry},RisingE l→risesB ltE l=true
 | [],_=>rfl
 | [a],_=>rfl
 | a::b::r,h=>by
  unfold RisingE at h
  rw [List.pairwise_cons]at h
  simp only [risesB,Bool.and_eq_true]
  exact ⟨(ltE_sgn a b).2 (h.1 b (List.mem_cons_self ..)),of_risesE (l:=b::r) h.2⟩
def isE (tree sub:ID) (e:Entry):Bool:=decide (e.tree=tree∧e.sub=sub)
theorem hitE {l:List Entry} (h:RisingE l) (t s:ID):match l.find? (isE t s) with
  | some a=>hitAt (sgnE t s) l=true∧l[lowIdx (sgnE t s) l]?=some a
  | none=>hitAt (sgnE t s) l=false:=by
 cases hf:l.find? (isE t s) with
 | some a =>
  have hax:a.tree=t∧a.sub=s:=by simpa [isE] using List.find?_some hf
  obtain ⟨i,hi,hia⟩:=List.mem_iff_getElem.1 (List.mem_of_find?_eq_some hf)
  have h0:sgnE t s a=0:=sgnE_eq.2 hax
  have hk:lowIdx (sgnE t s) l=i:=by
   refine lowIdx_eq (Nat.le_of_lt hi) (fun q hq=>?_) (fun hq=>?_)
   ·exact sgnE_trans (List.pairwise_iff_getElem.1 h q i (by omega) hi hq) (by rw [hia,h0];decide)
   ·rw [hia,h0];decide
  have hge:l[lowIdx (sgnE t s) l]?=some a:=by rw [hk,List.getElem?_eq_getElem hi,hia]
  refine ⟨?_,hge⟩
  unfold hitAt
  rw [hge]
  simp [h0]
 | none =>
  unfold hitAt
  cases hg:l[lowIdx (sgnE t s) l]? with
  | none=>rfl
  | some a =>
   have:=List.find?_eq_none.1 hf a (List.mem_of_getElem? hg)
   simp only [decide_eq_false_iff_not]
   rw [sgnE_eq]
   simpa [isE] using this
theorem s155 (tg:Bool) (e:Entry) (c d t1 t2:Int):pcF D t155 [.agg [.int .i64 e.tree.client,.int .i64 e.tree.seq,.int .i64 e.sub.client,.int .i64 e.sub.seq,ePred e.pred,.int .i64 e.frm,.bool e.up],.agg [.int .i64 c,.int .i64 d],.iptr tg [.int .i64 t1,.int .i64 t2] 0]=some (.int .i64 (sgnE ⟨t1,t2⟩ ⟨c,d⟩ e)):=by
 obtain ⟨⟨a1,a2⟩,⟨b1,b2⟩,p,q,u⟩:=e
 unfold pcF
 rw [goRun_eq _ _ _ _ (by simp [t155])]
 simp only
 have hA:((a1 == t1) && (a2 == t2))=decide ((⟨a1,a2⟩:ID)=⟨t1,t2⟩):=by by_cases h1:a1=t1<;>by_cases h2:a2=t2<;>simp [h1,h2]
 have hB:((b1 == c) && (b2 == d))=decide ((⟨b1,b2⟩:ID)=⟨c,d⟩):=by by_cases h1:b1=c<;>by_cases h2:b2=d<;>simp [h1,h2]
 by_cases h1:(⟨a1,a2⟩:ID)=⟨t1,t2⟩
 ·rw [decide_eq_true h1]at hA
  have hlt:ltID ⟨a1,a2⟩ ⟨t1,t2⟩=false:=by rw [h1];simp [ltID,(cmpID_eq (a:=⟨t1,t2⟩)).2 rfl]
  by_cases h2:(⟨b1,b2⟩:ID)=⟨c,d⟩
  ·rw [decide_eq_true h2]at hB
   simp [t155,-Bool.and_eq_true,-beq_iff_eq,hA,hB,sgnE,h1,h2]
  ·rw [decide_eq_false h2]at hB
   cases hs:ltID ⟨b1,b2⟩ ⟨c,d⟩<;>simp [t155,-Bool.and_eq_true,-beq_iff_eq,hA,hB,sgnE,eq_true h1,h2,e56,s56,hlt,hs]
 ·rw [decide_eq_false h1]at hA
  cases hlt:ltID ⟨a1,a2⟩ ⟨t1,t2⟩<;>simp [t155,-Bool.and_eq_true,-beq_iff_eq,hA,sgnE,h1,e56,s56,hlt]
end Go.Dm.Tc
/-
What functions of the program compute,part 16: an entry found;a tree's entries;is a predicate covered?
-/
namespace Go.Dm.Tc
theorem s113 (x0 x1 x2 x3 x5:DV) (t:Bool) (l:List Entry) (a b c d:Int) (hr:RisingE l) (hl:l.length≤1000000) :
  pcF D t113 [.agg [x0,x1,x2,x3,eL t 7 eEntry l,x5],.agg [.int .i64 a,.int .i64 b],.agg [.int .i64 c,.int .i64 d]]=some (.tup [.int .i64 (lowIdx (sgnE ⟨a,b⟩ ⟨c,d⟩) l),.bool (hitAt (sgnE ⟨a,b⟩ ⟨c,d⟩) l)]):=by
 have hb:=s154 t l c d 155 [.iptr true [.int .i64 a,.int .i64 b] 0] (sgnE ⟨a,b⟩ ⟨c,d⟩) (fun x _ h=>by simp [eEntry,e155,s155]) hl (monoE hr ⟨a,b⟩ ⟨c,d⟩)
 unfold pcF
 rw [goRun_eq _ _ _ _ (by simp [t113])]
 simp [t113,e154,hb,resultsOf]
def ofT (tree:ID) (l:List Entry):List Entry:=l.filter fun e=>decide (e.tree=tree)
theorem l40 (t:Bool) (l:List Entry) (c d:Int) (hl:l.length≤1000000) (h0:Heap) (g1:h0.get 1=some (.arr 37 2 [.agg [.int .i64 c,.int .i64 d]] (some 1))) (hlim:h0.lim=0) (hn:2≤h0.n) :
  ∀(rest acc:List Entry) (i:Nat) (f:FEnv) (h:Heap),l.drop i=rest→acc.length≤i→f 3=.ptr 1 2 0 0→f 9=eL t 7 eEntry l→f 10=.int .i64 l.length→f 11=.int .i64 i→OwnR 2 h (f 5) 58 7 (acc.map eEntry)→Ext 2 h0 h →
  pcOut (fin [.t 4] (run D 25 [.block 0,.seq t40k0] (.loop t40l0) f h))=some (eL false 7 eEntry (acc++ofT ⟨c,d⟩ rest)):=by
 intro rest
 induction rest with
 | nil =>
  intro acc i f h hd ha h3 h9 h10 h11 ho hx
  have hi:=drop_nil hd
  have:¬(i<l.length):=by omega
  rw [run_loop_of t40l0.eq_1]
  simp only [ofT,List.filter_nil,List.append_nil]
  have hout:=ho.out (k:=22) (fun y _=>(plain_entry y).1.mono (by decide)) (fun y _=>(plain_entry y).2) (by decide)
  simp [t40k0,h10,h11,this,-pcOut_some]
  exact hout
 | cons e rest ih =>
  intro acc i f h hd ha h3 h9 h10 h11 ho hx
  obtain ⟨hi,he,hd'⟩:=drop_at hd
  have hlH:h.lim=0:=hx.lim.trans hlim
  have hg1:=(hx.get 1 (by decide)).trans g1
  have hnh:=hx.le
  have n1:¬1=h.n:=by omega
  have hw:IntKind.i64.wrap ((i:Int)+1)=(i:Int)+1:=wrap64 (by omega) (by omega)
  rw [run_loop_of t40l0.eq_1]
  by_cases hc:e.tree=⟨c,d⟩
  ·have hc1:e.tree.client=c:=by rw [hc]
   have hc2:e.tree.seq=d:=by rw [hc]
   have hf:ofT ⟨c,d⟩ (e::rest)=e::ofT ⟨c,d⟩ rest:=by simp [ofT,hc]
   rw [hf,List.append_cons]
   simp [h3,h9,h10,h11,hi,he,hlH,hg1,n1,eEntry,hc1,hc2]
   generalize hA:appendD _ _ _ _ _ _=A
   obtain ⟨v',h',rfl,ho',hx',_⟩:=ho.push.push.append hx.push.push.wf (hx.push.push.le) (by simp [hlH]) hA (by simp;omega) (by decide)
   clear hA
   simp [h11,hw]
   generalize hF:upd _ 11 _=F
   have:=ih (acc++[e]) (i+1) F h' hd' (by simp;omega) (by rw [←hF];simp [h3]) (by rw [←hF];simp [h9]) (by rw [←hF];simp [h10]) (by rw [←hF];simp) (by rw [←hF];simp;simpa [eEntry,hc1,hc2] using ho') (hx.push.push.trans hx')
   simpa using this
  ·have hcb:=id_ne hc
   simp only at hcb
   have hf:ofT ⟨c,d⟩ (e::rest)=ofT ⟨c,d⟩ rest:=by simp [ofT,hc]
   rw [hf]
   simp [h3,h9,h10,h11,hi,he,hlH,hg1,n1,eEntry,hcb,hw]
   generalize hF:upd _ 11 _=F
   exact ih acc (i+1) F _ hd' (by omega) (by rw [←hF];simp [h3]) (by rw [←hF];simp [h9]) (by rw [←hF];simp [h10]) (by rw [←hF];simp) (by rw [←hF];simp;exact ho.push) hx.push
theorem s40 (x0 x1 x2 x3 x5:DV) (t:Bool) (l:List Entry) (c d:Int) (hl:l.length≤1000000) :
  pcF D t40 [.agg [x0,x1,x2,x3,eL t 7 eEntry l,x5],.agg [.int .i64 c,.int .i64 d]]=some (eL false 7 eEntry (ofT ⟨c,d⟩ l)):=by
 unfold pcF
 rw [goRun_eq _ _ _ _ (by simp [t40])]
 simp [t40,-pcOut_some]
 refine (l40 t l c d hl _ ?_ ?_ ?_ l [] 0 _ _ rfl (by simp) ?_ ?_ ?_ ?_ ?_ (Ext.refl ?_ ?_))<;>simp
 exact .nil rfl rfl
theorem s117 (tg:Bool) (e:Entry) (p:Pred) (hu:Unlike p) (hp:p.length≤1000000) (he:e.pred.length≤1000000):pcF D t117 [.agg [.int .i64 e.tree.client,.int .i64 e.tree.seq,.int .i64 e.sub.client,.int .i64 e.sub.seq,ePred e.pred,.int .i64 e.frm,.bool e.up],.iptr tg [ePred p] 0]=some (.bool (e.up && coversP e.pred p)):=by
 unfold pcF
 rw [goRun_eq _ _ _ _ (by simp [t117])]
 cases e.up<;>simp [t117,e54,s54,hu,hp,he]
def coveredB (l:List Entry) (tree:ID) (p:Pred):Bool:=(ofT tree l).any fun e=>e.up && coversP e.pred p
theorem s35 (x0 x1 x2 x3 x5:DV) (t:Bool) (l:List Entry) (c d:Int) (p:Pred) (hl:l.length≤1000000) (hu:Unlike p) (hp:p.length≤1000000) (he:∀e∈l,e.pred.length≤1000000) (f0:Flat 20 x0) (f1:Flat 20 x1) (f2:Flat 20 x2) (f3:Flat 20 x3) (f5:Flat 20 x5) :
  pcF D t35 [.agg [x0,x1,x2,x3,eL t 7 eEntry l,x5],.agg [.int .i64 c,.int .i64 d],ePred p]=some (.bool (coveredB l ⟨c,d⟩ p)):=by
 have g0:∀h,resolve true h 199 x0=some x0:=fun h=>f0 _ _ _ (by decide)
 have g1:∀h,resolve true h 199 x1=some x1:=fun h=>f1 _ _ _ (by decide)
 have g2:∀h,resolve true h 199 x2=some x2:=fun h=>f2 _ _ _ (by decide)
 have g3:∀h,resolve true h 199 x3=some x3:=fun h=>f3 _ _ _ (by decide)
 have g5:∀h,resolve true h 199 x5=some x5:=fun h=>f5 _ _ _ (by decide)
 have hlo:(ofT ⟨c,d⟩ l).length≤1000000:=Nat.le_trans (List.length_filter_le ..) hl
 have hcf:=s106 false (ofT ⟨c,d⟩ l) 117 [.iptr true [ePred p] 0] (fun e=>e.up && coversP e.pred p) (fun x hx=>by
  simp only [List.mem_singleton]at hx;subst hx;exact (flat_iptr _ _ _).mono (by decide)) (fun x hx h=>by
  have:=he x (List.mem_filter.1 hx).1
  simp [eEntry,e117,s117,hu,hp,this]) hlo
 unfold pcF
 rw [goRun_eq _ _ _ _ (by simp [t35])]
 simp [t35,e40,s40,g0,g1,g2,g3,g5,hl,e106,hcf,coveredB,-List.any_eq_true]
end Go.Dm.Tc
/-
What functions of the program compute,part 17: is a broker tight?
-/
namespace Go.Dm.Tc
def parentOf (b:Broker) (x:ID):Int:=((b.adverts.find? fun a=>a.id=x).getD advZero).parent
def tightE (b:Broker) (e:Entry):Bool:=e.up || decide (parentOf b e.tree=-1) || coveredB b.entries e.tree e.pred
def tightB (b:Broker):Bool:=b.entries.all (tightE b)
structure AskedP (b:Broker):Prop where
 unl:∀e∈b.entries,Unlike e.pred
 len:∀e∈b.entries,e.pred.length≤1000000
theorem l41 (t:Tags) (b:Broker) (hs:Sized b) (hp:AskedP b) (ra:Rising (b.adverts.map (·.id))) (h0:Heap) (g0:h0.get 0=some (.arr 29 6 [eBroker t b] (some 1))) (hlim:h0.lim=0) :
  ∀(rest:List Entry) (i:Nat) (f:FEnv) (h:Heap),b.entries.drop i=rest→f 1=.ptr 0 6 0 0→f 8=eL t.entries 7 eEntry b.entries→f 9=.int .i64 b.entries.length→f 10=.int .i64 i→Ext 1 h0 h →
  pcOut (fin [.t 2] (run D 39 [.block 0,.seq t41k0] (.loop t41l0) f h))=some (.bool (rest.all (tightE b))):=by
 obtain ⟨z1,z2,z3,z4,z5⟩:=hs
 have f1:=fun {α:Type} (t:Bool) (sz:Nat) (e:α→DV) (xs:List α)=>(flat_eL t sz e xs).mono (show 1≤20 by decide)
 intro rest
 induction rest with
 | nil =>
  intro i f h hd h1 h8 h9 h10 hx
  have hi:=drop_nil hd
  have:¬(i<b.entries.length):=by omega
  rw [run_loop_of t41l0.eq_1]
  simp [t41k0,h9,h10,this]
 | cons e rest ih =>
  intro i f h hd h1 h8 h9 h10 hx
  obtain ⟨hi,he,hd'⟩:=drop_at hd
  have hem:e∈b.entries:=by rw [←he];exact List.getElem_mem hi
  have hlH:h.lim=0:=hx.lim.trans hlim
  have hg0:=(hx.get 0 (by decide)).trans g0
  simp only [eBroker]at hg0
  have hnh:=hx.le
  have n0:¬0=h.n:=by omega
  have m0:¬h.n=0:=by omega
  have hw:IntKind.i64.wrap ((i:Int)+1)=(i:Int)+1:=wrap64 (by omega) (by omega)
  have hFd:=s23 (.int .i64 b.me) (eL t.near 1 cInt b.near) (eL t.seen 2 eID b.seen) (eL t.entries 7 eEntry b.entries) (eL t.owns 3 eOwn b.owns) t.adverts b.adverts e.tree.client e.tree.seq ra (by omega) ((flat_int _ _).mono (by decide)) (f1 _ _ _ _) (f1 _ _ _ _) (f1 _ _ _ _) (f1 _ _ _ _)
  have hCv:=s35 (.int .i64 b.me) (eL t.near 1 cInt b.near) (eL t.adverts 4 eAdvert b.adverts) (eL t.seen 2 eID b.seen) (eL t.owns 3 eOwn b.owns) t.entries b.entries e.tree.client e.tree.seq e.pred (by omega) (hp.unl e hem) (hp.len e hem) hp.len ((flat_int _ _).mono (by decide)) (f1 _ _ _ _) (f1 _ _ _ _) (f1 _ _ _ _) (f1 _ _ _ _)
  obtain ⟨a,ha⟩:∃ a,(b.adverts.find? fun a=>decide (a.id=⟨e.tree.client,e.tree.seq⟩)).getD advZero=a:=⟨_,rfl⟩
  have hpa:parentOf b e.tree=a.parent:=by unfold parentOf;rw [←ha]
  rw [ha]at hFd
  obtain ⟨C,hC⟩:∃ C,coveredB b.entries e.tree e.pred=C:=⟨_,rfl⟩
  rw [show coveredB b.entries ⟨e.tree.client,e.tree.seq⟩ e.pred=C from hC]at hCv
  rw [run_loop_of t41l0.eq_1]
  have hte:tightE b e=(e.up || decide (a.parent=-1) || C):=by unfold tightE;rw [hpa,hC]
  rw [List.all_cons,hte]
  have next:∀F H,F 1=.ptr 0 6 0 0→F 8=eL t.entries 7 eEntry b.entries→F 9=.int .i64 b.entries.length→F 10=.int .i64 ((i:Int)+1)→Ext 1 h0 H→pcOut (fin [.t 2] (run D 39 [.block 0,.seq t41k0] (.loop t41l0) F H))=some (.bool (rest.all (tightE b))):=fun F H a1 a2 a3 a4 a5=>ih (i+1) F H hd' a1 a2 a3 (by rw [a4];simp) a5
  simp only [eAdvert]at hFd
  cases hup:e.up with
  | true =>
   simp [h1,h8,h9,h10,hi,he,hlH,hg0,n0,m0,eEntry,hup,e23,hFd,turn,hw]
   exact next _ _ (by simp [h1]) (by simp [h8]) (by simp [h9]) (by simp) hx.push.push
  | false =>
   by_cases hpl:a.parent=-1
   ·simp [h1,h8,h9,h10,hi,he,hlH,hg0,n0,m0,eEntry,hup,e23,hFd,turn,hw,hpl]
    exact next _ _ (by simp [h1]) (by simp [h8]) (by simp [h9]) (by simp) hx.push.push
   ·cases C with
    | true =>
     simp [h1,h8,h9,h10,hi,he,hlH,hg0,n0,m0,eEntry,hup,e23,hFd,turn,hw,hpl,e35,hCv]
     exact next _ _ (by simp [h1]) (by simp [h8]) (by simp [h9]) (by simp) hx.push.push
    | false=>simp [h1,h8,h9,h10,hi,he,hlH,hg0,n0,m0,eEntry,hup,e23,hFd,turn,hw,hpl,e35,hCv]
theorem s41 (t:Tags) (b:Broker) (hs:Sized b) (hp:AskedP b) (ra:Rising (b.adverts.map (·.id))):pcF D t41 [eBroker t b]=some (.bool (tightB b)):=by
 unfold pcF
 rw [goRun_eq _ _ _ _ (by simp [t41])]
 simp only [eBroker]
 simp [t41]
 refine (l41 t b hs hp ra _ ?_ ?_ b.entries 0 _ _ rfl ?_ ?_ ?_ ?_ (Ext.refl ?_ ?_)).trans ?_<;>simp [eBroker,tightB]
end Go.Dm.Tc
/-
What the reference's functions compute,part 4: an entry's place;is a predicate covered?
-/
namespace Go.Dm.Tc
theorem l119 (h0:Heap) (a b c d:Int) (t:Bool) (l:List Entry) (hl:l.length≤1000000) (g1:h0.get 1=some (.arr 37 2 [.agg [.int .i64 a,.int .i64 b]] (some 1))) (g2:h0.get 2=some (.arr 37 2 [.agg [.int .i64 c,.int .i64 d]] (some 1))) (hlim:h0.lim=0) :
  ∀(rest:List Entry) (i:Nat) (f:FEnv) (h:Heap),l.drop i=rest→f 4=.ptr 1 2 0 0→f 5=.ptr 2 2 0 0→f 10=eL t 7 eEntry l→f 11=.int .i64 l.length→f 12=.int .i64 i→Ext 3 h0 h →
  pcOut (fin [.t 6] (run D 29 [.block 0,.seq t119k0] (.loop t119l0) f h))=some (.int .i64 (idxOf ((rest.findIdx? (isE ⟨a,b⟩ ⟨c,d⟩)).map (·+i)))):=by
 intro rest
 induction rest with
 | nil =>
  intro i f h hd h4 h5 h10 h11 h12 hx
  have hi:=drop_nil hd
  have:¬(i<l.length):=by omega
  rw [run_loop_of t119l0.eq_1]
  simp [t119k0,h11,h12,this,idxOf]
 | cons e rest ih =>
  intro i f h hd h4 h5 h10 h11 h12 hx
  obtain ⟨hi,he,hd'⟩:=drop_at hd
  have hg1:=(hx.get 1 (by decide)).trans g1
  have hg2:=(hx.get 2 (by decide)).trans g2
  have hnh:=hx.le
  have n1:¬1=h.n:=by omega
  have n2:¬2=h.n:=by omega
  have hl0:h.lim=0:=hx.lim.trans hlim
  have hw:IntKind.i64.wrap ((i:Int)+1)=(i:Int)+1:=wrap64 (by omega) (by omega)
  rw [run_loop_of t119l0.eq_1]
  have next:∀F H,isE ⟨a,b⟩ ⟨c,d⟩ e=false→F 4=.ptr 1 2 0 0→F 5=.ptr 2 2 0 0→F 10=eL t 7 eEntry l→F 11=.int .i64 l.length→F 12=.int .i64 ((i:Int)+1)→Ext 3 h0 H→pcOut (fin [.t 6] (run D 29 [.block 0,.seq t119k0] (.loop t119l0) F H))=some (.int .i64 (idxOf (((e::rest).findIdx? (isE ⟨a,b⟩ ⟨c,d⟩)).map (·+i)))):=fun F H q a1 a2 a3 a4 a5 a6=>by
   refine (ih (i+1) F H hd' a1 a2 a3 a4 (by rw [a5];simp) a6).trans ?_
   simp [List.findIdx?_cons,q]
   congr 2
   funext q
   simp
   omega
  by_cases h1:e.tree=⟨a,b⟩
  ·have hc1:e.tree.client=a:=by rw [h1]
   have hc2:e.tree.seq=b:=by rw [h1]
   by_cases h2:e.sub=⟨c,d⟩
   ·have hc3:e.sub.client=c:=by rw [h2]
    have hc4:e.sub.seq=d:=by rw [h2]
    have hq:isE ⟨a,b⟩ ⟨c,d⟩ e=true:=by simp [isE,h1,h2]
    simp [h4,h5,h10,h11,h12,hi,he,n1,n2,hg1,hg2,eEntry,hl0,hc1,hc2,hc3,hc4,hq,List.findIdx?_cons,idxOf]
   ·have h2':=id_ne h2
    simp only at h2'
    have hq:isE ⟨a,b⟩ ⟨c,d⟩ e=false:=by simp [isE,h2]
    simp [h4,h5,h10,h11,h12,hi,he,n1,n2,hg1,hg2,eEntry,hl0,hc1,hc2,h2',hw]
    exact next _ _ hq (by simp [h4]) (by simp [h5]) (by simp [h10]) (by simp [h11]) (by simp) hx.push
  ·have h1':=id_ne h1
   simp only at h1'
   have hq:isE ⟨a,b⟩ ⟨c,d⟩ e=false:=by simp [isE,h1]
   simp [h4,h5,h10,h11,h12,hi,he,n1,n2,hg1,hg2,eEntry,hl0,h1',hw]
   exact next _ _ hq (by simp [h4]) (by simp [h5]) (by simp [h10]) (by simp [h11]) (by simp) hx.push
theorem s119 (x0 x1 x2 x3 x5:DV) (t:Bool) (l:List Entry) (a b c d:Int) (hl:l.length≤1000000) :
  pcF D t119 [.agg [x0,x1,x2,x3,eL t 7 eEntry l,x5],.agg [.int .i64 a,.int .i64 b],.agg [.int .i64 c,.int .i64 d]]=some (.int .i64 (idxOf (l.findIdx? (isE ⟨a,b⟩ ⟨c,d⟩)))):=by
 unfold pcF
 rw [goRun_eq _ _ _ _ (by simp [t119])]
 simp [t119]
 refine (l119 _ a b c d t l hl ?_ ?_ ?_ l 0 _ _ rfl ?_ ?_ ?_ ?_ ?_ (Ext.refl ?_ ?_)).trans ?_<;>simp
def impliesC (a b:Cons):Bool :=
 if a.kind=1 then decide (b.kind=1) && decide (b.lo≤a.lo) && decide (a.hi≤b.hi)
 else if b.kind=2 then decide (a.kind=2) && (a.text == b.text)
 else decide (b.kind=3) && beginsS a.text b.text
theorem s158 (a b:Cons):pcF D t158 [.agg [.str a.name,.int .i64 a.kind,.int .i64 a.lo,.int .i64 a.hi,.str a.text],.agg [.str b.name,.int .i64 b.kind,.int .i64 b.lo,.int .i64 b.hi,.str b.text]]=some (.bool (impliesC a b)):=by
 obtain ⟨nm,k,lo,hi,tx⟩:=a
 obtain ⟨nm',k',lo',hi',tx'⟩:=b
 unfold pcF
 rw [goRun_eq _ _ _ _ (by simp [t158])]
 simp only
 by_cases k1:k=1
 ·subst k1
  by_cases j:k'=1
  ·by_cases h1:lo'≤lo
   ·simp [t158,impliesC,j,h1]
   ·simp [t158,impliesC,j,h1]
  ·simp [t158,impliesC,j]
 ·by_cases k2:k'=2
  ·subst k2
   by_cases j:k=2
   ·simp [t158,impliesC,j]
   ·simp [t158,impliesC,k1,j]
  ·by_cases k3:k'=3
   ·subst k3
    simp [t158,impliesC,k1,e188,s188]
   ·simp [t158,impliesC,k1,k2,k3]
theorem implies_wider {c x:Cons} (hx:rightOne x=true):impliesC x c=widerC c x:=by
 have hk:x.kind=1∨x.kind=2∨x.kind=3:=by
  unfold rightOne at hx
  rw [Bool.and_eq_true]at hx
  have:=hx.2
  split at this
  ·rename_i h;exact .inl h
  ·split at this
   ·rename_i h;exact .inr (.inr h)
   ·split at this
    ·rename_i h;exact .inr (.inl h)
    ·cases this
 unfold impliesC widerC holdsT
 rcases hk with h|h|h
 ·simp [h]
 ·by_cases h2:c.kind=2
  ·simp [h,h2]
  ·by_cases h3:c.kind=3<;>simp [h,h2,h3]
 ·by_cases h2:c.kind=2
  ·simp [h,h2]
  ·simp [h,h2]
end Go.Dm.Tc
/-
What the reference's functions compute,part 5: does a predicate cover another one? is it covered?
-/
namespace Go.Dm.Tc
def inC (x:Cons) (b:Pred):Bool:=b.any fun y=>decide (y.name=x.name) && impliesC y x
theorem l118 (S:List Fr) (b:Pred) (hl:b.length≤1000000) (a:Pred) (x:Cons) (n11:DV) (i12:DV) (id:Nat) :
  ∀(rest:Pred) (i:Nat) (acc:Bool) (f:FEnv) (h:Heap),b.drop i=rest→f 1=eL false 5 eCons b→f 10=eL false 5 eCons a→f 11=n11→f 12=i12→f 6=.ptr id 5 0 0→f 7=.bool acc→f 16=eL false 5 eCons b→f 17=.int .i64 b.length→f 18=.int .i64 i →
   h.get id=some (.arr 62 5 [eCons x] (some 1))→h.lim=0→WF h →
  ∃ f' h',run D 39 (.block 2::.seq t118k0::S) (.loop t118l0) f h=run D 39 S t118k0 f' h'∧f' 1=eL false 5 eCons b∧f' 10=eL false 5 eCons a∧f' 11=n11∧f' 12=i12∧f' 7=.bool (acc || inC x rest)∧h'.lim=0∧WF h':=by
 intro rest
 induction rest with
 | nil =>
  intro i acc f h hd h1 h10 h11 h12 h6 h7 h16 h17 h18 g hlim wf
  have hi:=drop_nil hd
  have:¬(i<b.length):=by omega
  rw [run_loop_of t118l0.eq_1]
  simp [h17,h18,this]
  exact ⟨_,_,rfl,by simp [h1],by simp [h10],by simp [h11],by simp [h12],by simp [h7,inC],hlim,wf⟩
 | cons y rest ih =>
  intro i acc f h hd h1 h10 h11 h12 h6 h7 h16 h17 h18 g hlim wf
  obtain ⟨hi,he,hd'⟩:=drop_at hd
  have hlt:=get_some_lt g
  have n0:¬id=h.n:=by omega
  have hw:IntKind.i64.wrap ((i:Int)+1)=(i:Int)+1:=wrap64 (by omega) (by omega)
  simp only [eCons]at g
  rw [run_loop_of t118l0.eq_1]
  have hin:(acc || inC x (y::rest))=((acc || (decide (y.name=x.name) && impliesC y x)) || inC x rest):=by simp [inC,Bool.or_assoc]
  rw [hin]
  have next:∀(F:FEnv) (acc':Bool),F 1=eL false 5 eCons b→F 10=eL false 5 eCons a→F 11=n11→F 12=i12→F 6=.ptr id 5 0 0→F 7=.bool acc'→F 16=eL false 5 eCons b→F 17=.int .i64 b.length→F 18=.int .i64 ((i:Int)+1) →
    ∃ f' h',run D 39 (.block 2::.seq t118k0::S) (.loop t118l0) F (h.push (.arr 62 5 [.agg [.str y.name,.int .i64 y.kind,.int .i64 y.lo,.int .i64 y.hi,.str y.text]] (some 1)))=run D 39 S t118k0 f' h'∧f' 1=eL false 5 eCons b∧f' 10=eL false 5 eCons a∧f' 11=n11∧f' 12=i12∧f' 7=.bool (acc' || inC x rest)∧h'.lim=0∧WF h':=fun F acc' a1 a2 a3 a4 a5 a6 a7 a8 a9 =>
   ih (i+1) acc' F _ hd' a1 a2 a3 a4 a5 a6 a7 a8 (by rw [a9];simp) (by rw [get_push,if_neg n0];exact g) hlim wf.push
  cases acc with
  | true =>
   simp [h1,h6,h7,h16,h17,h18,hi,he,eCons,hlim,n0,g,hw]
   generalize hF:upd _ 18 _=F
   have:=next F true (by rw [←hF];simp [h1]) (by rw [←hF];simp [h10]) (by rw [←hF];simp [h11]) (by rw [←hF];simp [h12]) (by rw [←hF];simp [h6]) (by rw [←hF];simp) (by rw [←hF];simp [h16,eCons]) (by rw [←hF];simp [h17]) (by rw [←hF];simp)
   simpa using this
  | false =>
   by_cases hn:y.name=x.name
   ·simp [h1,h6,h7,h16,h17,h18,hi,he,eCons,hlim,n0,g,hw,eq_true hn,beq_iff_eq.2 hn,e158,s158]
    generalize hF:upd _ 18 _=F
    have:=next F (impliesC y x) (by rw [←hF];simp [h1]) (by rw [←hF];simp [h10]) (by rw [←hF];simp [h11]) (by rw [←hF];simp [h12]) (by rw [←hF];simp [h6]) (by rw [←hF];simp) (by rw [←hF];simp [h16,eCons]) (by rw [←hF];simp [h17]) (by rw [←hF];simp)
    simpa using this
   ·simp [h1,h6,h7,h16,h17,h18,hi,he,eCons,hlim,n0,g,hw,hn]
    generalize hF:upd _ 18 _=F
    have:=next F false (by rw [←hF];simp [h1]) (by rw [←hF];simp [h10]) (by rw [←hF];simp [h11]) (by rw [←hF];simp [h12]) (by rw [←hF];simp [h6]) (by rw [←hF];simp) (by rw [←hF];simp [h16,eCons]) (by rw [←hF];simp [h17]) (by rw [←hF];simp)
    simpa using this
theorem m118 (a b:Pred) (hla:a.length≤1000000) (hl:b.length≤1000000) :
  ∀(rest:Pred) (i:Nat) (f:FEnv) (h:Heap),a.drop i=rest→f 1=eL false 5 eCons b→f 10=eL false 5 eCons a→f 11=.int .i64 a.length→f 12=.int .i64 i→h.lim=0→WF h →
  pcOut (fin [.t 4] (run D 39 [.block 0,.seq t118k2] (.loop t118l1) f h))=some (.bool (rest.all fun x=>inC x b)):=by
 intro rest
 induction rest with
 | nil =>
  intro i f h hd h1 h10 h11 h12 hlim wf
  have hi:=drop_nil hd
  have:¬(i<a.length):=by omega
  rw [run_loop_of t118l1.eq_1]
  simp [t118k2,h11,h12,this]
 | cons x rest ih =>
  intro i f h hd h1 h10 h11 h12 hlim wf
  obtain ⟨hi,he,hd'⟩:=drop_at hd
  have hw:IntKind.i64.wrap ((i:Int)+1)=(i:Int)+1:=wrap64 (by omega) (by omega)
  rw [run_loop_of t118l1.eq_1]
  simp [h1,h10,h11,h12,hi,he,eCons,hlim]
  generalize hF:upd _ 18 _=F
  obtain ⟨f',h',k1,k2,k3,k4,k5,k6,k7,k8⟩:=l118 (.block 1::.seq t118k1::.loop t118l1::[.block 0,.seq t118k2]) b hl a x (.int .i64 a.length) (.int .i64 i) h.n b 0 false F (h.push (.arr 62 5 [eCons x] (some 1))) rfl (by rw [←hF];simp [h1]) (by rw [←hF];simp [h10,eCons]) (by rw [←hF];simp [h11]) (by rw [←hF];simp [h12]) (by rw [←hF];simp) (by rw [←hF];simp) (by rw [←hF];simp [eCons]) (by rw [←hF];simp) (by rw [←hF];simp) (by simp) (by exact hlim) wf.push
  simp only [eCons]at k1
  rw [k1]
  clear hF k1
  simp only [Bool.false_or]at k6
  cases hq:inC x b with
  | false =>
   rw [hq]at k6
   simp [t118k0,k6,hq]
  | true =>
   rw [hq]at k6
   simp [t118k0,t118k1,k5,k6,hq,hw]
   refine (ih (i+1) _ h' hd' ?_ ?_ ?_ ?_ k7 k8).trans ?_<;>simp [k2,k3,k4]
theorem s118 (a b:Pred) (hla:a.length≤1000000) (hl:b.length≤1000000):pcF D t118 [ePred a,ePred b]=some (.bool (a.all fun x=>inC x b)):=by
 unfold pcF
 rw [goRun_eq _ _ _ _ (by simp [t118])]
 simp only [ePred]
 simp [t118]
 refine (m118 a b hla hl a 0 _ _ rfl ?_ ?_ ?_ ?_ ?_ ?_).trans ?_<;>simp
end Go.Dm.Tc
/-
Plain laws,part 3: names of right predicates are unlike;the two coverings are alike. The reference's Covered.
-/
namespace Go.Dm.Tc
theorem u8_lt {a b:UInt8}:(decide (a<b))=decide (a.toNat<b.toNat):=by
 by_cases h:a<b
 ·rw [decide_eq_true h,decide_eq_true (UInt8.lt_iff_toNat_lt.1 h)]
 ·rw [decide_eq_false h,decide_eq_false (fun q=>h (UInt8.lt_iff_toNat_lt.2 q))]
theorem bl_irr:∀a:List UInt8,Go.Op.bytesLess a a=false
 | []=>rfl
 | a::r=>by simp only [Go.Op.bytesLess,u8_lt,bl_irr r];simp
theorem bl_trans:∀{a b c:List UInt8},Go.Op.bytesLess a b=true→Go.Op.bytesLess b c=true→Go.Op.bytesLess a c=true
 | _,[],_,h,_=>by cases ‹List UInt8›<;>simp [Go.Op.bytesLess]at h
 | _,_::_,[],_,h=>by simp [Go.Op.bytesLess]at h
 | [],_::_,_::_,_,_=>rfl
 | a::x,b::y,c::z,h1,h2=>by
  simp only [Go.Op.bytesLess,u8_lt,Bool.or_eq_true,Bool.and_eq_true,decide_eq_true_iff,beq_iff_eq]at *
  rcases h1 with h1|⟨rfl,h1⟩
  ·rcases h2 with h2|⟨rfl,h2⟩
   ·exact .inl (by omega)
   ·exact .inl h1
  ·rcases h2 with h2|⟨rfl,h2⟩
   ·exact .inl h2
   ·exact .inr ⟨rfl,bl_trans h1 h2⟩
theorem rightA_names:∀{p:Pred} {prev:Option (List UInt8)},rightA prev p=true→(∀n,prev=some n→∀c∈p,Go.Op.bytesLess n c.name=true)∧p.Pairwise fun a b=>Go.Op.bytesLess a.name b.name=true
 | [],_,_=>⟨fun _ _ _ h=>(by cases h),List.Pairwise.nil⟩
 | c::r,prev,h=>by
  simp only [rightA,Bool.and_eq_true]at h
  obtain ⟨⟨_,h2⟩,h3⟩:=h
  obtain ⟨k1,k2⟩:=rightA_names h3
  refine ⟨fun n hn d hd=>?_,List.pairwise_cons.2 ⟨fun d hd=>k1 c.name rfl d hd,k2⟩⟩
  subst hn
  rcases List.mem_cons.1 hd with rfl|hd
  ·exact h2
  ·exact bl_trans h2 (k1 c.name rfl d hd)
theorem rightA_each:∀{p:Pred} {prev:Option (List UInt8)},rightA prev p=true→∀c∈p,rightOne c=true
 | [],_,_,_,h=>by cases h
 | c::r,prev,h,d,hd=>by
  simp only [rightA,Bool.and_eq_true]at h
  rcases List.mem_cons.1 hd with rfl|hd
  ·exact h.1.1
  ·exact rightA_each h.2 d hd
theorem PredOk.unlike {p:Pred} (h:PredOk p):Unlike p:=by
 have:=h.right
 unfold rightP at this
 rw [Bool.and_eq_true]at this
 refine (rightA_names this.1).2.imp fun {a b} hab e=>?_
 rw [e,bl_irr]at hab
 cases hab
theorem PredOk.each {p:Pred} (h:PredOk p):∀c∈p,rightOne c=true:=by
 have:=h.right
 unfold rightP at this
 rw [Bool.and_eq_true]at this
 exact rightA_each this.1
theorem PredOk.nil:PredOk []:=⟨rfl,⟨by decide,fun c h=>by cases h⟩,by decide⟩
theorem inC_find (x:Cons):∀{b:Pred},Unlike b→(∀y∈b,rightOne y=true)→inC x b=match b.find? (fun y=>decide (y.name=x.name)) with
  | some y=>widerC x y
  | none=>false
 | [],_,_=>rfl
 | y::r,hu,hr=>by
  unfold Unlike at hu
  rw [List.pairwise_cons]at hu
  unfold inC
  rw [List.any_cons,List.find?_cons]
  by_cases h:y.name=x.name
  ·rw [decide_eq_true h]
   have:(r.any fun y=>decide (y.name=x.name) && impliesC y x)=false:=by
    rw [List.any_eq_false]
    intro z hz
    have:¬z.name=x.name:=fun e=>hu.1 z hz (by rw [h,e])
    simp [this]
   rw [this,Bool.true_and,Bool.or_false]
   exact implies_wider (hr y (List.mem_cons_self ..))
  ·rw [decide_eq_false h,Bool.false_and,Bool.false_or]
   exact inC_find x hu.2 fun z hz=>hr z (List.mem_cons_of_mem _ hz)
theorem refCovers_eq (a:Pred) {b:Pred} (h:PredOk b):(a.all fun x=>inC x b)=coversP a b:=by
 unfold coversP
 congr 1
 funext x
 exact inC_find x h.unlike h.each
theorem s118_ok (a b:Pred) (hla:a.length≤1000000) (h:PredOk b):pcF D t118 [ePred a,ePred b]=some (.bool (coversP a b)):=by
 rw [←refCovers_eq a h]
 exact s118 a b hla (Nat.le_trans h.len (by decide))
theorem l36 (t:Bool) (l:List Entry) (c d:Int) (p:Pred) (hl:l.length≤1000000) (hp:PredOk p) (hle:∀e∈l,e.pred.length≤1000000) (h0:Heap) (g1:h0.get 1=some (.arr 37 2 [.agg [.int .i64 c,.int .i64 d]] (some 1))) (hlim:h0.lim=0) :
  ∀(rest:List Entry) (i:Nat) (f:FEnv) (h:Heap),l.drop i=rest→f 2=ePred p→f 4=.ptr 1 2 0 0→f 10=eL t 7 eEntry l→f 11=.int .i64 l.length→f 12=.int .i64 i→Ext 2 h0 h →
  pcOut (fin [.t 6] (run D 31 [.block 0,.seq t36k0] (.loop t36l0) f h))=some (.bool (coveredB rest ⟨c,d⟩ p)):=by
 intro rest
 induction rest with
 | nil =>
  intro i f h hd h2 h4 h10 h11 h12 hx
  have hi:=drop_nil hd
  have:¬(i<l.length):=by omega
  rw [run_loop_of t36l0.eq_1]
  simp [t36k0,h11,h12,this,coveredB,ofT]
 | cons e rest ih =>
  intro i f h hd h2 h4 h10 h11 h12 hx
  obtain ⟨hi,he,hd'⟩:=drop_at hd
  have hg1:=(hx.get 1 (by decide)).trans g1
  have hnh:=hx.le
  have n1:¬1=h.n:=by omega
  have hl0:h.lim=0:=hx.lim.trans hlim
  have hw:IntKind.i64.wrap ((i:Int)+1)=(i:Int)+1:=wrap64 (by omega) (by omega)
  have hcv:=s118_ok e.pred p (hle e (by rw [←he];exact List.getElem_mem hi)) hp
  have next:∀F H,F 2=ePred p→F 4=.ptr 1 2 0 0→F 10=eL t 7 eEntry l→F 11=.int .i64 l.length→F 12=.int .i64 ((i:Int)+1)→Ext 2 h0 H →
    pcOut (fin [.t 6] (run D 31 [.block 0,.seq t36k0] (.loop t36l0) F H))=some (.bool (coveredB rest ⟨c,d⟩ p)):=fun F H a1 a2 a3 a4 a5 a6=>ih (i+1) F H hd' a1 a2 a3 a4 (by rw [a5];simp) a6
  rw [run_loop_of t36l0.eq_1]
  by_cases ht:e.tree=⟨c,d⟩
  ·have hc1:e.tree.client=c:=by rw [ht]
   have hc2:e.tree.seq=d:=by rw [ht]
   have hcb:coveredB (e::rest) ⟨c,d⟩ p=((e.up && coversP e.pred p) || coveredB rest ⟨c,d⟩ p):=by simp [coveredB,ofT,ht]
   rw [hcb]
   cases hup:e.up with
   | false =>
    simp [h2,h4,h10,h11,h12,hi,he,n1,hg1,eEntry,hl0,hc1,hc2,hup,hw]
    exact next _ _ (by simp [h2]) (by simp [h4]) (by simp [h10]) (by simp [h11]) (by simp) hx.push
   | true =>
    cases hcp:coversP e.pred p with
    | false =>
     rw [hcp]at hcv
     simp [h2,h4,h10,h11,h12,hi,he,n1,hg1,eEntry,hl0,hc1,hc2,hup,hw,e118,hcv]
     exact next _ _ (by simp [h2]) (by simp [h4]) (by simp [h10]) (by simp [h11]) (by simp) hx.push
    | true =>
     rw [hcp]at hcv
     simp [h2,h4,h10,h11,h12,hi,he,n1,hg1,eEntry,hl0,hc1,hc2,hup,hw,e118,hcv]
  ·have h1':=id_ne ht
   simp only at h1'
   have hcb:coveredB (e::rest) ⟨c,d⟩ p=coveredB rest ⟨c,d⟩ p:=by simp [coveredB,ofT,ht]
   rw [hcb]
   simp [h2,h4,h10,h11,h12,hi,he,n1,hg1,eEntry,hl0,h1',hw]
   exact next _ _ (by simp [h2]) (by simp [h4]) (by simp [h10]) (by simp [h11]) (by simp) hx.push
theorem s36 (x0 x1 x2 x3 x5:DV) (t:Bool) (l:List Entry) (c d:Int) (p:Pred) (hl:l.length≤1000000) (hp:PredOk p) (hle:∀e∈l,e.pred.length≤1000000) :
  pcF D t36 [.agg [x0,x1,x2,x3,eL t 7 eEntry l,x5],.agg [.int .i64 c,.int .i64 d],ePred p]=some (.bool (coveredB l ⟨c,d⟩ p)):=by
 unfold pcF
 rw [goRun_eq _ _ _ _ (by simp [t36])]
 simp [t36]
 refine (l36 t l c d p hl hp hle _ ?_ ?_ l 0 _ _ rfl ?_ ?_ ?_ ?_ ?_ (Ext.refl ?_ ?_)).trans ?_<;>simp
end Go.Dm.Tc
/-
What functions of the program compute,part 18: an entry added.
-/
namespace Go.Dm.Tc
def insE (e:Entry) (l:List Entry):List Entry:=l.take (lowIdx (sgnE e.tree e.sub) l)++e::l.drop (lowIdx (sgnE e.tree e.sub) l)
def mayAdd (b:Broker) (e:Entry):Bool :=
 match b.adverts.find? (fun a=>a.id=e.tree) with
 | none=>false
 | some a=>!(b.entries.any (isE e.tree e.sub)) && !(decide (e.frm=a.parent) && !decide (a.parent=-1))
def upOf (b:Broker) (e:Entry):Bool:=!decide (parentOf b e.tree=-1) && !coveredB b.entries e.tree e.pred
def addB (b:Broker) (e:Entry):Broker×Bool :=
 if mayAdd b e=true then ({b with entries:=insE {e with up:=upOf b e} b.entries},upOf b e) else (b,false)
theorem find_any {l:List Entry} {t s:ID}:l.any (isE t s)=hasO (l.find? (isE t s)):=by
 cases h:l.find? (isE t s) with
 | none =>
  rw [List.any_eq_false.2]
  ·rfl
  ·intro x hx
   have:=List.find?_eq_none.1 h x hx
   simpa using this
 | some a=>exact List.any_eq_true.2 ⟨a,List.mem_of_find?_eq_some h,List.find?_some h⟩
set_option maxRecDepth 8000 in
theorem s31 (b:Broker) (e:Entry) (hs:Sized b) (hq:AskedP b) (hpo:PredOk e.pred) (ra:Rising (b.adverts.map (·.id))) (re:RisingE b.entries) :
  pcF D t31 [eBroker .none b,.agg [.int .i64 e.tree.client,.int .i64 e.tree.seq,.int .i64 e.sub.client,.int .i64 e.sub.seq,ePred e.pred,.int .i64 e.frm,.bool e.up]]=some (.tup [eBroker .none (addB b e).1,.bool (addB b e).2]):=by
 obtain ⟨me,near,adv,seen,ent,own⟩:=b
 obtain ⟨⟨tc,td⟩,⟨sc,sd⟩,p,frm,up⟩:=e
 obtain ⟨z1,z2,z3,z4,z5⟩:=hs
 simp only at z1 z2 z3 z4 z5 ra re hpo
 obtain ⟨R,hR⟩:∃ R,R=DV.tup [eBroker .none (addB ⟨me,near,adv,seen,ent,own⟩ ⟨⟨tc,td⟩,⟨sc,sd⟩,p,frm,up⟩).1,.bool (addB ⟨me,near,adv,seen,ent,own⟩ ⟨⟨tc,td⟩,⟨sc,sd⟩,p,frm,up⟩).2]:=⟨_,rfl⟩
 rw [←hR]
 have hal:adv.length≤1000000:=by omega
 have hel:ent.length≤1000000:=by omega
 have f1:=fun {α:Type} (t:Bool) (sz:Nat) (e:α→DV) (xs:List α)=>(flat_eL t sz e xs).mono (show 1≤20 by decide)
 have hFd:=fun u4=>s23 (.int .i64 me) (eL false 1 cInt near) (eL false 2 eID seen) (eL u4 7 eEntry ent) (eL false 3 eOwn own) false adv tc td ra hal ((flat_int _ _).mono (by decide)) (f1 _ _ _ _) (f1 _ _ _ _) (f1 _ _ _ _) (f1 _ _ _ _)
 have hPl:=fun u4=>s113 (.int .i64 me) (eL false 1 cInt near) (eL false 4 eAdvert adv) (eL false 2 eID seen) (eL false 3 eOwn own) u4 ent tc td sc sd re hel
 have hCv:=fun u4=>s35 (.int .i64 me) (eL false 1 cInt near) (eL false 4 eAdvert adv) (eL false 2 eID seen) (eL false 3 eOwn own) u4 ent tc td p hel hpo.unlike (Nat.le_trans hpo.len (by decide)) hq.len ((flat_int _ _).mono (by decide)) (f1 _ _ _ _) (f1 _ _ _ _) (f1 _ _ _ _) (f1 _ _ _ _)
 have hhit:=hitE re ⟨tc,td⟩ ⟨sc,sd⟩
 have hany:=find_any (l:=ent) (t:=⟨tc,td⟩) (s:=⟨sc,sd⟩)
 unfold pcF
 rw [goRun_eq _ _ _ _ (by simp [t31])]
 simp [t31,eBroker,Tags.none,e112]
 generalize hA:cloneHook _ _ _ _ _=A
 obtain ⟨v4,K,rfl,o4,x,_⟩:=clone_own (lo:=3) (elems_eL ..) (by simp) (by simp) (by simp) (by simp;omega) (by decide) hA
 clear hA
 have a0:=x.get 0 (by decide)
 have a1:=x.get 1 (by decide)
 have a2:=x.get 2 (by decide)
 have q0:=x.lim
 have w0:=x.wf
 have n0:=x.le
 simp at a0 a1 a2 q0
 have l0':0<K.n:=by omega
 obtain ⟨H,hH⟩:∃ H,H=K.set 0 (.arr 29 6 [.agg [.int .i64 me,eL false 1 cInt near,eL false 4 eAdvert adv,eL false 2 eID seen,v4,eL false 3 eOwn own]] (some 1)):=⟨_,rfl⟩
 have wH:WF H:=by rw [hH];exact w0.set
 have nH:H.n=K.n:=by rw [hH];rfl
 have lH:H.lim=0:=by rw [hH];exact q0
 have g0:H.get 0=some (.arr 29 6 [.agg [.int .i64 me,eL false 1 cInt near,eL false 4 eAdvert adv,eL false 2 eID seen,v4,eL false 3 eOwn own]] (some 1)):=by rw [hH,get_set w0 l0',if_pos rfl]
 have g1:H.get 1=some (.arr 58 7 [.agg [.int .i64 tc,.int .i64 td,.int .i64 sc,.int .i64 sd,ePred p,.int .i64 frm,.bool up]] (some 1)):=by rw [hH,get_set w0 l0',if_neg (by decide)];exact a1
 have g2:H.get 2=some (.arr 29 6 [.agg [.int .i64 0,.nsl,.nsl,.nsl,.nsl,.nsl]] (some 1)):=by rw [hH,get_set w0 l0',if_neg (by decide)];exact a2
 have st4:=o4.storable
 have ec4:=o4.ecells
 replace o4:Own 3 H v4 58 7 (ent.map eEntry):=by rw [hH];exact o4.setLow w0 (by decide) l0'
 simp [a0,a1,a2,q0,w0,l0',st4,ec4,turn]
 rw [←hH]
 clear hH
 have l0:0<H.n:=by omega
 have l1:1<H.n:=by omega
 have l2:2<H.n:=by omega
 have nn0:¬0=H.n:=by omega
 have nn1:¬1=H.n:=by omega
 have nn2:¬2=H.n:=by omega
 have mm0:¬H.n=0:=by omega
 have mm1:¬H.n=1:=by omega
 have mm2:¬H.n=2:=by omega
 have r1:resolve true H 199 v4=some (eL true 7 eEntry ent):=o4.resolve true (fun y _=>(plain_entry y).1) (by decide)
 have r1p:∀o,resolve true (H.push o) 199 v4=some (eL true 7 eEntry ent):=fun o=>o4.push.resolve true (fun y _=>(plain_entry y).1) (by decide)
 have r2:∀o o',resolve false ((H.set 2 o').push o) 198 v4=some (eL false 7 eEntry ent):=fun o o'=>((o4.setLow wH (by decide) l2).push).resolve false (fun y _=>(plain_entry y).1) (by decide)
 cases hq1:adv.find? (fun a=>decide (a.id=⟨tc,td⟩)) with
 | none =>
  rw [hq1]at hFd
  have hmay:mayAdd ⟨me,near,adv,seen,ent,own⟩ ⟨⟨tc,td⟩,⟨sc,sd⟩,p,frm,up⟩=false:=by simp [mayAdd,hq1]
  simp [g0,g1,g2,lH,wH,nn0,nn1,nn2,mm0,mm1,mm2,l0,l1,l2,e23,hFd,e113,hPl,hhit,r1,r2,eAdvert,turn,resultsOf,hasO,advZero,r1p]
  simp [hR,addB,hmay,eBroker,Tags.none]
 | some a =>
  rw [hq1]at hFd
  simp only [eAdvert,Option.getD_some]at hFd
  cases hq2:ent.find? (isE ⟨tc,td⟩ ⟨sc,sd⟩) with
  | some e2 =>
   rw [hq2]at hhit hany
   simp only at hhit
   have hhit':=hhit.1
   have hmay:mayAdd ⟨me,near,adv,seen,ent,own⟩ ⟨⟨tc,td⟩,⟨sc,sd⟩,p,frm,up⟩=false:=by simp only [mayAdd,hq1,hany];simp [hasO]
   simp [g0,g1,g2,lH,wH,nn0,nn1,nn2,mm0,mm1,mm2,l0,l1,l2,e23,hFd,e113,hPl,r1,r2,eAdvert,turn,resultsOf,hasO,r1p,hhit']
   simp [hR,addB,hmay,eBroker,Tags.none]
  | none =>
   rw [hq2]at hhit hany
   simp only at hhit
   by_cases hfp:frm=a.parent∧¬a.parent=-1
   ·have hmay:mayAdd ⟨me,near,adv,seen,ent,own⟩ ⟨⟨tc,td⟩,⟨sc,sd⟩,p,frm,up⟩=false:=by simp only [mayAdd,hq1,hany];simp [hfp.1,hfp.2]
    have hf1:=hfp.1
    have hf2:=hfp.2
    subst hf1
    simp [g0,g1,g2,lH,wH,nn0,nn1,nn2,mm0,mm1,mm2,l0,l1,l2,e23,hFd,e113,hPl,hhit,r1,r2,eAdvert,turn,resultsOf,hasO,r1p,hf2]
    simp [hR,addB,hmay,eBroker,Tags.none]
   ·have hmay:mayAdd ⟨me,near,adv,seen,ent,own⟩ ⟨⟨tc,td⟩,⟨sc,sd⟩,p,frm,up⟩=true:=by
     simp only [mayAdd,hq1,hany,hasO]
     by_cases h1:frm=a.parent
     ·have h2:a.parent=-1:=by
       by_cases h2:a.parent=-1
       ·exact h2
       ·exact absurd ⟨h1,h2⟩ hfp
      simp [h2]
     ·simp [h1]
    have hpar:parentOf ⟨me,near,adv,seen,ent,own⟩ ⟨tc,td⟩=a.parent:=by simp [parentOf,hq1]
    by_cases hpl:a.parent=-1
    ·have hup:upOf ⟨me,near,adv,seen,ent,own⟩ ⟨⟨tc,td⟩,⟨sc,sd⟩,p,frm,up⟩=false:=by simp [upOf,hpar,hpl]
     by_cases hfm:frm=a.parent
     ·simp [g0,g1,g2,lH,wH,nn0,nn1,nn2,mm0,mm1,mm2,l0,l1,l2,e23,hFd,e113,hPl,hhit,r1,eAdvert,turn,r1p,hasO,eq_true hpl,eq_true hfm]
      generalize hA:fc D _ _ _=A
      have o4i:=o4.push (o:=.arr 42 4 [.agg [.int .i64 a.id.client,.int .i64 a.id.seq,ePred a.pred,.int .i64 a.parent]] (some 1))
      obtain ⟨v4',K2,rfl,p4,x2,_⟩:=q114 hA 3 ent ⟨⟨tc,td⟩,⟨sc,sd⟩,p,frm,false⟩ (vety:=58) (c:=1) (by
        have:=((o4i.setLow (id:=1) (o:=.arr 58 7 [.agg [.int .i64 tc,.int .i64 td,.int .i64 sc,.int .i64 sd,ePred p,.int .i64 frm,.bool false]] (some 1)) wH.push (by decide) (by simp;omega)).push (o:=.arr 58 7 [.agg [.int .i64 tc,.int .i64 td,.int .i64 sc,.int .i64 sd,ePred p,.int .i64 frm,.bool false]] (some 1)))
        simpa [l1,wH] using this) (by simp [eEntry,nn0,nn1,nn2,mm0,mm1,mm2,l0,l1,l2,wH]) (lowIdx_le _ _) hel (by simp [wH]) (by simp;omega) (by simp [lH])
      clear hA
      have b0:=x2.get 0 (by decide)
      have b1:=x2.get 1 (by decide)
      have b2:=x2.get 2 (by decide)
      have q2:=x2.lim
      have w2:=x2.wf
      have n2:=x2.le
      simp [g0,g1,g2,lH,wH,nn0,nn1,nn2,mm0,mm1,mm2,l0,l1,l2]at b0 b1 b2 q2
      have h20:0<K2.n:=by omega
      have h22:2<K2.n:=by omega
      have r4':=fun o o'=>((p4.setLow (o:=o) w2 (by decide) h20).setLow (o:=o') w2.set (by decide) h22).resolve (n:=198) false (fun y _=>(plain_entry y).1) (by decide)
      simp [b0,b1,b2,q2,w2,h20,h22,p4.storable,p4.ecells,turn,r4',resultsOf]
      simp [hR,addB,hmay,hup,eBroker,Tags.none,insE]
     ·simp [g0,g1,g2,lH,wH,nn0,nn1,nn2,mm0,mm1,mm2,l0,l1,l2,e23,hFd,e113,hPl,hhit,r1,eAdvert,turn,r1p,hasO,eq_true hpl,hfm]
      generalize hA:fc D _ _ _=A
      have o4i:=o4.push (o:=.arr 42 4 [.agg [.int .i64 a.id.client,.int .i64 a.id.seq,ePred a.pred,.int .i64 a.parent]] (some 1))
      obtain ⟨v4',K2,rfl,p4,x2,_⟩:=q114 hA 3 ent ⟨⟨tc,td⟩,⟨sc,sd⟩,p,frm,false⟩ (vety:=58) (c:=1) (by
        have:=((o4i.setLow (id:=1) (o:=.arr 58 7 [.agg [.int .i64 tc,.int .i64 td,.int .i64 sc,.int .i64 sd,ePred p,.int .i64 frm,.bool false]] (some 1)) wH.push (by decide) (by simp;omega)).push (o:=.arr 58 7 [.agg [.int .i64 tc,.int .i64 td,.int .i64 sc,.int .i64 sd,ePred p,.int .i64 frm,.bool false]] (some 1)))
        simpa [l1,wH] using this) (by simp [eEntry,nn0,nn1,nn2,mm0,mm1,mm2,l0,l1,l2,wH]) (lowIdx_le _ _) hel (by simp [wH]) (by simp;omega) (by simp [lH])
      clear hA
      have b0:=x2.get 0 (by decide)
      have b1:=x2.get 1 (by decide)
      have b2:=x2.get 2 (by decide)
      have q2:=x2.lim
      have w2:=x2.wf
      have n2:=x2.le
      simp [g0,g1,g2,lH,wH,nn0,nn1,nn2,mm0,mm1,mm2,l0,l1,l2]at b0 b1 b2 q2
      have h20:0<K2.n:=by omega
      have h22:2<K2.n:=by omega
      have r4':=fun o o'=>((p4.setLow (o:=o) w2 (by decide) h20).setLow (o:=o') w2.set (by decide) h22).resolve (n:=198) false (fun y _=>(plain_entry y).1) (by decide)
      simp [b0,b1,b2,q2,w2,h20,h22,p4.storable,p4.ecells,turn,r4',resultsOf]
      simp [hR,addB,hmay,hup,eBroker,Tags.none,insE]
    ·have hfne:¬frm=a.parent:=fun e=>hfp ⟨e,hpl⟩
     cases hC:coveredB ent ⟨tc,td⟩ p with
     | true =>
      rw [hC]at hCv
      have hup:upOf ⟨me,near,adv,seen,ent,own⟩ ⟨⟨tc,td⟩,⟨sc,sd⟩,p,frm,up⟩=false:=by simp [upOf,hC]
      simp [g0,g1,g2,lH,wH,nn0,nn1,nn2,mm0,mm1,mm2,l0,l1,l2,e23,hFd,e113,hPl,hhit,r1,eAdvert,turn,r1p,hasO,hpl,hfne,e35,hCv]
      generalize hA:fc D _ _ _=A
      have o4i:=o4.push (o:=.arr 42 4 [.agg [.int .i64 a.id.client,.int .i64 a.id.seq,ePred a.pred,.int .i64 a.parent]] (some 1))
      obtain ⟨v4',K2,rfl,p4,x2,_⟩:=q114 hA 3 ent ⟨⟨tc,td⟩,⟨sc,sd⟩,p,frm,false⟩ (vety:=58) (c:=1) (by
        have:=((o4i.setLow (id:=1) (o:=.arr 58 7 [.agg [.int .i64 tc,.int .i64 td,.int .i64 sc,.int .i64 sd,ePred p,.int .i64 frm,.bool false]] (some 1)) wH.push (by decide) (by simp;omega)).push (o:=.arr 58 7 [.agg [.int .i64 tc,.int .i64 td,.int .i64 sc,.int .i64 sd,ePred p,.int .i64 frm,.bool false]] (some 1)))
        simpa [l1,wH] using this) (by simp [eEntry,nn0,nn1,nn2,mm0,mm1,mm2,l0,l1,l2,wH]) (lowIdx_le _ _) hel (by simp [wH]) (by simp;omega) (by simp [lH])
      clear hA
      have b0:=x2.get 0 (by decide)
      have b1:=x2.get 1 (by decide)
      have b2:=x2.get 2 (by decide)
      have q2:=x2.lim
      have w2:=x2.wf
      have n2:=x2.le
      simp [g0,g1,g2,lH,wH,nn0,nn1,nn2,mm0,mm1,mm2,l0,l1,l2]at b0 b1 b2 q2
      have h20:0<K2.n:=by omega
      have h22:2<K2.n:=by omega
      have r4':=fun o o'=>((p4.setLow (o:=o) w2 (by decide) h20).setLow (o:=o') w2.set (by decide) h22).resolve (n:=198) false (fun y _=>(plain_entry y).1) (by decide)
      simp [b0,b1,b2,q2,w2,h20,h22,p4.storable,p4.ecells,turn,r4',resultsOf]
      simp [hR,addB,hmay,hup,eBroker,Tags.none,insE]
     | false =>
      rw [hC]at hCv
      have hup:upOf ⟨me,near,adv,seen,ent,own⟩ ⟨⟨tc,td⟩,⟨sc,sd⟩,p,frm,up⟩=true:=by simp [upOf,hpar,hpl,hC]
      simp [g0,g1,g2,lH,wH,nn0,nn1,nn2,mm0,mm1,mm2,l0,l1,l2,e23,hFd,e113,hPl,hhit,r1,eAdvert,turn,r1p,hasO,hpl,hfne,e35,hCv]
      generalize hA:fc D _ _ _=A
      have o4i:=o4.push (o:=.arr 42 4 [.agg [.int .i64 a.id.client,.int .i64 a.id.seq,ePred a.pred,.int .i64 a.parent]] (some 1))
      obtain ⟨v4',K2,rfl,p4,x2,_⟩:=q114 hA 3 ent ⟨⟨tc,td⟩,⟨sc,sd⟩,p,frm,true⟩ (vety:=58) (c:=1) (by
        have:=((o4i.setLow (id:=1) (o:=.arr 58 7 [.agg [.int .i64 tc,.int .i64 td,.int .i64 sc,.int .i64 sd,ePred p,.int .i64 frm,.bool true]] (some 1)) wH.push (by decide) (by simp;omega)).push (o:=.arr 58 7 [.agg [.int .i64 tc,.int .i64 td,.int .i64 sc,.int .i64 sd,ePred p,.int .i64 frm,.bool true]] (some 1)))
        simpa [l1,wH] using this) (by simp [eEntry,nn0,nn1,nn2,mm0,mm1,mm2,l0,l1,l2,wH]) (lowIdx_le _ _) hel (by simp [wH]) (by simp;omega) (by simp [lH])
      clear hA
      have b0:=x2.get 0 (by decide)
      have b1:=x2.get 1 (by decide)
      have b2:=x2.get 2 (by decide)
      have q2:=x2.lim
      have w2:=x2.wf
      have n2:=x2.le
      simp [g0,g1,g2,lH,wH,nn0,nn1,nn2,mm0,mm1,mm2,l0,l1,l2]at b0 b1 b2 q2
      have h20:0<K2.n:=by omega
      have h22:2<K2.n:=by omega
      have r4':=fun o o'=>((p4.setLow (o:=o) w2 (by decide) h20).setLow (o:=o') w2.set (by decide) h22).resolve (n:=198) false (fun y _=>(plain_entry y).1) (by decide)
      simp [b0,b1,b2,q2,w2,h20,h22,p4.storable,p4.ecells,turn,r4',resultsOf]
      simp [hR,addB,hmay,hup,eBroker,Tags.none,insE]
end Go.Dm.Tc
/-
What the reference's functions compute,part 6: an entry added.
-/
namespace Go.Dm.Tc
theorem l37 (S:List Fr) (h:Heap) (x0 x1 x2 x3 x5:DV) (l:List Entry) (tc td sc sd:Int) (p q r:DV) (hl:l.length≤1000000)
  (g0:h.get 0=some (.arr 29 6 [.agg [x0,x1,x2,x3,eL false 7 eEntry l,x5]] (some 1))) (g1:h.get 1=some (.arr 58 7 [.agg [.int .i64 tc,.int .i64 td,.int .i64 sc,.int .i64 sd,p,q,r]] (some 1))) (hlim:h.lim=0) :
  ∀(n i:Nat) (f:FEnv),lowIdx (sgnE ⟨tc,td⟩ ⟨sc,sd⟩) l-i=n→i≤lowIdx (sgnE ⟨tc,td⟩ ⟨sc,sd⟩) l→f 2=.ptr 0 6 0 0→f 3=.ptr 1 7 0 0→f 7=.int .i64 i →
  ∃ f',run D 115 (.block 0::.seq t37k0::S) (.loop t37l0) f h=run D 115 S t37k0 f' h∧f' 2=.ptr 0 6 0 0∧f' 3=.ptr 1 7 0 0∧f' 4=f 4∧f' 5=f 5∧f' 7=.int .i64 (lowIdx (sgnE ⟨tc,td⟩ ⟨sc,sd⟩) l):=by
 intro n
 induction n with
 | zero =>
  intro i f hn hi h2 h3 h7
  have hlo:lowIdx (sgnE ⟨tc,td⟩ ⟨sc,sd⟩) l=i:=by omega
  rw [run_loop_of t37l0.eq_1]
  by_cases hlt:i<l.length
  ·have hsx:=low_step (sgnE ⟨tc,td⟩ ⟨sc,sd⟩) hi (List.getElem?_eq_getElem hlt)
   have hnn:¬sgnE ⟨tc,td⟩ ⟨sc,sd⟩ l[i]<0:=fun hc=>by have:=hsx.1 hc;omega
   rw [sgnE_lt]at hnn
   obtain ⟨e,he⟩:∃ e,l[i]=e:=⟨_,rfl⟩
   rw [he]at hnn
   have hn1:ltID ⟨e.tree.client,e.tree.seq⟩ ⟨tc,td⟩=false:=by
    cases hq:ltID e.tree ⟨tc,td⟩ with
    | false=>rfl
    | true=>exact absurd (.inl hq) hnn
   by_cases ht:e.tree=⟨tc,td⟩
   ·have hc1:e.tree.client=tc:=by rw [ht]
    have hc2:e.tree.seq=td:=by rw [ht]
    have hn2:ltID ⟨e.sub.client,e.sub.seq⟩ ⟨sc,sd⟩=false:=by
     cases hq:ltID e.sub ⟨sc,sd⟩ with
     | false=>rfl
     | true=>exact absurd (.inr ⟨ht,hq⟩) hnn
    simp [h2,h3,h7,g0,g1,hlt,he,hlim,eEntry,e76,s76,hn1,hn2]
    simp only [hc1,hc2]at hn1
    simp [hc1,hc2,hn1,e76,s76,hn2]
    exact ⟨_,rfl,by simp [h2],by simp [h3],by simp,by simp,by simp [h7,hlo]⟩
   ·have h1':=id_ne ht
    simp only at h1'
    simp [h2,h3,h7,g0,g1,hlt,he,hlim,eEntry,e76,s76,hn1,h1']
    exact ⟨_,rfl,by simp [h2],by simp [h3],by simp,by simp,by simp [h7,hlo]⟩
  ·simp [h2,h3,h7,g0,g1,hlt]
   exact ⟨_,rfl,by simp [h2],by simp [h3],by simp,by simp,by simp [h7,hlo]⟩
 | succ n ih =>
  intro i f hn hi h2 h3 h7
  have hlt:i<l.length:=by have:=lowIdx_le (sgnE ⟨tc,td⟩ ⟨sc,sd⟩) l;omega
  obtain ⟨e,he⟩:∃ e,l[i]=e:=⟨_,rfl⟩
  have hyes:sgnE ⟨tc,td⟩ ⟨sc,sd⟩ e<0:=by
   have:=low_lt (sgnE ⟨tc,td⟩ ⟨sc,sd⟩) (l:=l) (i:=i) (a:=l[i]) (by omega) (List.getElem?_eq_getElem hlt)
   rw [he]at this
   exact of_decide_eq_true this
  rw [sgnE_lt]at hyes
  have hw:IntKind.i64.wrap ((i:Int)+1)=(i:Int)+1:=wrap64 (by omega) (by omega)
  rw [run_loop_of t37l0.eq_1]
  have next:∀F,F 2=.ptr 0 6 0 0→F 3=.ptr 1 7 0 0→F 4=f 4→F 5=f 5→F 7=.int .i64 ((i:Int)+1) →
    ∃ f',run D 115 (.block 0::.seq t37k0::S) (.loop t37l0) F h=run D 115 S t37k0 f' h∧f' 2=.ptr 0 6 0 0∧f' 3=.ptr 1 7 0 0∧f' 4=f 4∧f' 5=f 5∧f' 7=.int .i64 (lowIdx (sgnE ⟨tc,td⟩ ⟨sc,sd⟩) l):=fun F a1 a2 a3 a4 a5=>by
   obtain ⟨f',k1,k2,k3,k4,k5,k6⟩:=ih (i+1) F (by omega) (by omega) a1 a2 (by rw [a5];simp)
   exact ⟨f',k1,k2,k3,by rw [k4,a3],by rw [k5,a4],k6⟩
  cases hq:ltID e.tree ⟨tc,td⟩ with
  | true =>
   have hq':ltID ⟨e.tree.client,e.tree.seq⟩ ⟨tc,td⟩=true:=hq
   simp [h2,h3,h7,g0,g1,hlt,he,hlim,eEntry,e76,s76,hq',hw]
   generalize hF:upd _ 7 _=F
   exact next F (by rw [←hF];simp [h2]) (by rw [←hF];simp [h3]) (by rw [←hF];simp) (by rw [←hF];simp) (by rw [←hF];simp)
  | false =>
   obtain ⟨ht,hs⟩:=hyes.resolve_left (by rw [hq];simp)
   have hq':ltID ⟨e.tree.client,e.tree.seq⟩ ⟨tc,td⟩=false:=hq
   have hs':ltID ⟨e.sub.client,e.sub.seq⟩ ⟨sc,sd⟩=true:=hs
   have hc1:e.tree.client=tc:=by rw [ht]
   have hc2:e.tree.seq=td:=by rw [ht]
   simp only [hc1,hc2]at hq'
   simp [h2,h3,h7,g0,g1,hlt,he,hlim,eEntry,e76,s76,hc1,hc2,hq',hs',hw]
   generalize hF:upd _ 7 _=F
   exact next F (by rw [←hF];simp [h2]) (by rw [←hF];simp [h3]) (by rw [←hF];simp) (by rw [←hF];simp) (by rw [←hF];simp)
end Go.Dm.Tc
/-
What the reference's functions compute,part 7: an entry added,all of it.
-/
namespace Go.Dm.Tc
set_option maxRecDepth 8000 in
theorem v37 (me:Int) (near:List Int) (adv:List Advert) (seen:List ID) (ent:List Entry) (own:List OwnS) (tc td sc sd:Int) (p:Pred) (frm:Int) (U:Bool) (hel:ent.length≤100000) (F:FEnv) (H:Heap)
  (g0:H.get 0=some (.arr 29 6 [.agg [.int .i64 me,eL false 1 cInt near,eL false 4 eAdvert adv,eL false 2 eID seen,eL false 7 eEntry ent,eL false 3 eOwn own]] (some 1)))
  (g1:H.get 1=some (.arr 58 7 [.agg [.int .i64 tc,.int .i64 td,.int .i64 sc,.int .i64 sd,ePred p,.int .i64 frm,.bool U]] (some 1)))
  (g2:H.get 2=some (.arr 29 6 [.agg [.int .i64 0,.nsl,.nsl,.nsl,.nsl,.nsl]] (some 1))) (hlim:H.lim=0) (hn:3≤H.n) (wf:WF H) (h2:F 2=.ptr 0 6 0 0) (h3:F 3=.ptr 1 7 0 0) (h4:F 4=.ptr 2 6 0 0) (h7:F 7=.int .i64 0) :
  pcOut (fin [.cell 4 (some 6),.t 5] (run D 115 [.block 0,.seq t37k0] (.loop t37l0) F H))=some (.tup [eBroker .none ⟨me,near,adv,seen,insE ⟨⟨tc,td⟩,⟨sc,sd⟩,p,frm,U⟩ ent,own⟩,.bool U]):=by
 obtain ⟨f1,k1,k2,k3,k4,k5,k6⟩:=l37 [] H (.int .i64 me) (eL false 1 cInt near) (eL false 4 eAdvert adv) (eL false 2 eID seen) (eL false 3 eOwn own) ent tc td sc sd (ePred p) (.int .i64 frm) (.bool U) (by omega) g0 g1 hlim _ 0 F rfl (by omega) h2 h3 h7
 rw [k1]
 rw [h4]at k4
 clear k1
 have hlow:=lowIdx_le (sgnE ⟨tc,td⟩ ⟨sc,sd⟩) ent
 have v0:¬0=H.n:=by omega
 have v1:¬1=H.n:=by omega
 have v2:¬2=H.n:=by omega
 have v3:¬H.n=0:=by omega
 have v4:¬H.n=1:=by omega
 simp [t37k0,k2,k3,k4,k6,hlow,g0,g1,g2,hlim,wf,v0,v1,v2,v3,v4]
 generalize hA:appendD _ _ _ _ _ _=A
 obtain ⟨i1,K1,rfl,o1,x1,y1,j1⟩:=(OwnI.fresh (lo:=3) (ety:=58) (sz:=7) (xs:=[]) (cap:=some 0) (by omega) hn).append (n:=0) rfl wf.push (by simp;omega) (by simp [hlim]) hA (by simp;omega) (by decide)
 clear hA
 have a0:=x1.get 0 (by decide)
 have a1:=x1.get 1 (by decide)
 have a2:=x1.get 2 (by decide)
 have q1:=x1.lim
 have w1:=x1.wf
 have n1:=x1.le
 have u1:=o1.lo
 have m0:¬0=i1:=by omega
 have m1:¬i1=0:=by omega
 have m2:¬i1=1:=by omega
 have m3:¬1=i1:=by omega
 simp [g0,g1,g2,v0,v1,v2,hlim]at a0 a1 a2 q1 o1
 simp [k2,k3,g0,g1,a0,a1,a2,q1,m0,m1,m2,m3,v3,v4,hlow]
 generalize hA:appendD _ _ _ _ _ _=A
 obtain ⟨i2,K2,rfl,o2,x2,y2,j2⟩:=(o1.push (o:=_)).append (by simp [hlow]) (by simp [w1]) (by simp;omega) (by simp [q1]) hA (by simp;omega) (by decide)
 clear hA
 have b0:=x2.get 0 (by decide)
 have b1:=x2.get 1 (by decide)
 have b2:=x2.get 2 (by decide)
 have q2:=x2.lim
 have w2:=x2.wf
 have n2:=x2.le
 have u2:=o2.lo
 have c0:¬0=K1.n:=by omega
 have c1:¬1=K1.n:=by omega
 have c2:¬2=K1.n:=by omega
 have m4:¬i2=0:=by omega
 have m5:¬i2=1:=by omega
 simp [a0,a1,a2,q1,c0,c1,c2]at b0 b1 b2 q2 o2
 simp [k2,k3,k6,g0,g1,a0,b0,b1,b2,q2,m0,m1,m2,m3,m4,m5,v3,v4,hlow]
 generalize hA:appendD _ _ _ _ _ _=A
 obtain ⟨i3,K3,rfl,o3,x3,y3,j3⟩:=o2.append (by simp [hlow]) w2 n2 (by omega) hA (by simp;omega) (by decide)
 clear hA
 have d0:=x3.get 0 (by decide)
 have d1:=x3.get 1 (by decide)
 have d2:=x3.get 2 (by decide)
 have q3:=x3.lim
 have w3:=x3.wf
 have n3:=x3.le
 have l3:0<K3.n:=by omega
 have l32:2<K3.n:=by omega
 rw [b0]at d0
 rw [b1]at d1
 rw [b2]at d2
 rw [q2]at q3
 have hlen:(List.take (lowIdx (sgnE ⟨tc,td⟩ ⟨sc,sd⟩) ent) (List.map eEntry ent)++DV.agg [.int .i64 tc,.int .i64 td,.int .i64 sc,.int .i64 sd,ePred p,.int .i64 frm,.bool U]::List.drop (lowIdx (sgnE ⟨tc,td⟩ ⟨sc,sd⟩) ent) (List.map eEntry ent))=(insE ⟨⟨tc,td⟩,⟨sc,sd⟩,p,frm,U⟩ ent).map eEntry:=by simp [insE,eEntry]
 simp only [List.append_assoc,List.singleton_append]at o3
 rw [hlen]at o3
 have hmin:min (lowIdx (sgnE ⟨tc,td⟩ ⟨sc,sd⟩) ent) ent.length=lowIdx (sgnE ⟨tc,td⟩ ⟨sc,sd⟩) ent:=by omega
 have hln:(insE ⟨⟨tc,td⟩,⟨sc,sd⟩,p,frm,U⟩ ent).length=lowIdx (sgnE ⟨tc,td⟩ ⟨sc,sd⟩) ent+1+(ent.length-lowIdx (sgnE ⟨tc,td⟩ ⟨sc,sd⟩) ent):=by simp [insE,hmin];omega
 have r4:=fun o o'=>((o3.toR.setLow (o:=o) w3 (by decide) l3).setLow (o:=o') w3.set (by decide) l32).resolve (n:=198) false (fun y _=>(plain_entry y).1) (by decide)
 simp only [List.length_map,hln]at r4
 simp [k2,k3,k4,g0,d0,d1,d2,q3,w3,l3,l32,turn,hmin,v3,v4,m1,m4,r4,resultsOf]
 simp [eBroker,Tags.none]
set_option maxRecDepth 8000 in
theorem s37 (b:Broker) (e:Entry) (hs:Sized b) (hq:AskedP b) (hpo:PredOk e.pred):
  pcF D t37 [eBroker .none b,.agg [.int .i64 e.tree.client,.int .i64 e.tree.seq,.int .i64 e.sub.client,.int .i64 e.sub.seq,ePred e.pred,.int .i64 e.frm,.bool e.up]]=some (.tup [eBroker .none (addB b e).1,.bool (addB b e).2]):=by
 obtain ⟨me,near,adv,seen,ent,own⟩:=b
 obtain ⟨⟨tc,td⟩,⟨sc,sd⟩,p,frm,up⟩:=e
 obtain ⟨z1,z2,z3,z4,z5⟩:=hs
 simp only at z1 z2 z3 z4 z5 hpo
 obtain ⟨R,hR⟩:∃ R,R=DV.tup [eBroker .none (addB ⟨me,near,adv,seen,ent,own⟩ ⟨⟨tc,td⟩,⟨sc,sd⟩,p,frm,up⟩).1,.bool (addB ⟨me,near,adv,seen,ent,own⟩ ⟨⟨tc,td⟩,⟨sc,sd⟩,p,frm,up⟩).2]:=⟨_,rfl⟩
 rw [←hR]
 have hal:adv.length≤1000000:=by omega
 have hel:ent.length≤1000000:=by omega
 have hfi:=find_idx (fun a:Advert=>decide (a.id=⟨tc,td⟩)) adv
 have hfe:=find_idx (isE ⟨tc,td⟩ ⟨sc,sd⟩) ent
 have hany:=find_any (l:=ent) (t:=⟨tc,td⟩) (s:=⟨sc,sd⟩)
 have hEn:=s119 (.int .i64 me) (eL false 1 cInt near) (eL false 4 eAdvert adv) (eL false 2 eID seen) (eL false 3 eOwn own) false ent tc td sc sd hel
 have hCv:=s36 (.int .i64 me) (eL false 1 cInt near) (eL false 4 eAdvert adv) (eL false 2 eID seen) (eL false 3 eOwn own) false ent tc td p hel hpo hq.len
 unfold pcF
 rw [goRun_eq _ _ _ _ (by simp [t37])]
 cases hq1:adv.find? (fun a=>decide (a.id=⟨tc,td⟩)) with
 | none =>
  rw [hq1]at hfi
  simp only at hfi
  have hmay:mayAdd ⟨me,near,adv,seen,ent,own⟩ ⟨⟨tc,td⟩,⟨sc,sd⟩,p,frm,up⟩=false:=by simp [mayAdd,hq1]
  simp [t37,eBroker,Tags.none,e24,s24,hal,hfi,idxOf,turn,resultsOf]
  simp [hR,addB,hmay,eBroker,Tags.none]
 | some a =>
  rw [hq1]at hfi
  simp only at hfi
  obtain ⟨j,hj,hja⟩:=hfi
  have hjn:¬(j:Int)<0:=by omega
  cases hq2:ent.find? (isE ⟨tc,td⟩ ⟨sc,sd⟩) with
  | some e2 =>
   rw [hq2]at hfe hany
   simp only at hfe
   obtain ⟨k,hk,_⟩:=hfe
   rw [hk]at hEn
   have hk0:(0:Int)≤(k:Int):=by omega
   have hmay:mayAdd ⟨me,near,adv,seen,ent,own⟩ ⟨⟨tc,td⟩,⟨sc,sd⟩,p,frm,up⟩=false:=by simp only [mayAdd,hq1,hany];simp [hasO]
   simp [t37,eBroker,Tags.none,e24,s24,hal,hj,hjn,idxOf,e119,hEn,hk0,turn,resultsOf]
   simp [hR,addB,hmay,eBroker,Tags.none]
  | none =>
   rw [hq2]at hfe hany
   simp only at hfe
   rw [hfe]at hEn
   by_cases hfp:frm=a.parent∧¬a.parent=-1
   ·have hmay:mayAdd ⟨me,near,adv,seen,ent,own⟩ ⟨⟨tc,td⟩,⟨sc,sd⟩,p,frm,up⟩=false:=by simp only [mayAdd,hq1,hany];simp [hfp.1,hfp.2]
    have hf1:=hfp.1
    have hf2:=hfp.2
    subst hf1
    simp [t37,eBroker,Tags.none,e24,s24,hal,hj,hjn,hja,eAdvert,idxOf,e119,hEn,hf2,turn,resultsOf]
    simp [hR,addB,hmay,eBroker,Tags.none]
   ·have hmay:mayAdd ⟨me,near,adv,seen,ent,own⟩ ⟨⟨tc,td⟩,⟨sc,sd⟩,p,frm,up⟩=true:=by
     simp only [mayAdd,hq1,hany,hasO]
     by_cases h1:frm=a.parent
     ·have h2:a.parent=-1:=by
       by_cases h2:a.parent=-1
       ·exact h2
       ·exact absurd ⟨h1,h2⟩ hfp
      simp [h2]
     ·simp [h1]
    have hpar:parentOf ⟨me,near,adv,seen,ent,own⟩ ⟨tc,td⟩=a.parent:=by simp [parentOf,hq1]
    have hfin:∀U F H,upOf ⟨me,near,adv,seen,ent,own⟩ ⟨⟨tc,td⟩,⟨sc,sd⟩,p,frm,up⟩=U→H.get 0=some (.arr 29 6 [.agg [.int .i64 me,eL false 1 cInt near,eL false 4 eAdvert adv,eL false 2 eID seen,eL false 7 eEntry ent,eL false 3 eOwn own]] (some 1))→H.get 1=some (.arr 58 7 [.agg [.int .i64 tc,.int .i64 td,.int .i64 sc,.int .i64 sd,ePred p,.int .i64 frm,.bool U]] (some 1)) →
      H.get 2=some (.arr 29 6 [.agg [.int .i64 0,.nsl,.nsl,.nsl,.nsl,.nsl]] (some 1))→H.lim=0→3≤H.n→WF H→F 2=.ptr 0 6 0 0→F 3=.ptr 1 7 0 0→F 4=.ptr 2 6 0 0→F 7=.int .i64 0 →
      pcOut (fin [.cell 4 (some 6),.t 5] (run D 115 [.block 0,.seq t37k0] (.loop t37l0) F H))=some R:=fun U F H u a0 a1 a2 a3 a4 a5 a6 a7 a8 a9=>by
     rw [v37 me near adv seen ent own tc td sc sd p frm U z4 F H a0 a1 a2 a3 a4 a5 a6 a7 a8 a9,hR]
     simp [addB,hmay,u]
    by_cases hpl:a.parent=-1
    ·have hup:upOf ⟨me,near,adv,seen,ent,own⟩ ⟨⟨tc,td⟩,⟨sc,sd⟩,p,frm,up⟩=false:=by simp [upOf,hpar,hpl]
     by_cases hfm:frm=-1
     ·simp [t37,eBroker,Tags.none,e24,s24,hal,hj,hjn,hja,eAdvert,idxOf,e119,hEn,hpl,eq_true hfm,turn]
      refine hfin false _ _ hup ?_ ?_ ?_ ?_ ?_ ?_ ?_ ?_ ?_ ?_<;>simp
     ·simp [t37,eBroker,Tags.none,e24,s24,hal,hj,hjn,hja,eAdvert,idxOf,e119,hEn,hpl,hfm,turn]
      refine hfin false _ _ hup ?_ ?_ ?_ ?_ ?_ ?_ ?_ ?_ ?_ ?_<;>simp
    ·have hfne:¬frm=a.parent:=fun e=>hfp ⟨e,hpl⟩
     cases hC:coveredB ent ⟨tc,td⟩ p with
     | true =>
      rw [hC]at hCv
      have hup:upOf ⟨me,near,adv,seen,ent,own⟩ ⟨⟨tc,td⟩,⟨sc,sd⟩,p,frm,up⟩=false:=by simp [upOf,hC]
      by_cases hfm:frm=-1
      ·simp [t37,eBroker,Tags.none,e24,s24,hal,hj,hjn,hja,eAdvert,idxOf,e119,hEn,hpl,hfne,eq_true hfm,e36,hCv,turn]
       refine hfin false _ _ hup ?_ ?_ ?_ ?_ ?_ ?_ ?_ ?_ ?_ ?_<;>simp
      ·simp [t37,eBroker,Tags.none,e24,s24,hal,hj,hjn,hja,eAdvert,idxOf,e119,hEn,hpl,hfne,hfm,e36,hCv,turn]
       refine hfin false _ _ hup ?_ ?_ ?_ ?_ ?_ ?_ ?_ ?_ ?_ ?_<;>simp
     | false =>
      rw [hC]at hCv
      have hup:upOf ⟨me,near,adv,seen,ent,own⟩ ⟨⟨tc,td⟩,⟨sc,sd⟩,p,frm,up⟩=true:=by simp [upOf,hpar,hpl,hC]
      by_cases hfm:frm=-1
      ·simp [t37,eBroker,Tags.none,e24,s24,hal,hj,hjn,hja,eAdvert,idxOf,e119,hEn,hpl,hfne,eq_true hfm,e36,hCv,turn]
       refine hfin true _ _ hup ?_ ?_ ?_ ?_ ?_ ?_ ?_ ?_ ?_ ?_<;>simp
      ·simp [t37,eBroker,Tags.none,e24,s24,hal,hj,hjn,hja,eAdvert,idxOf,e119,hEn,hpl,hfne,hfm,e36,hCv,turn]
       refine hfin true _ _ hup ?_ ?_ ?_ ?_ ?_ ?_ ?_ ?_ ?_ ?_<;>simp
end Go.Dm.Tc
/-
Two rows of one element type side by side: what is put behind one leaves the other one alone.
-/
namespace Go.Dm.Tc
def NotAt (v:DV) (k:Nat):Prop:=∀sz off len,v≠.sl k sz off len
theorem append_frame {lo:Nat} {h:Heap} {v:DV} {ety sz bytes:Nat} {xs ys:List DV} {A:Option (DV×Heap)} (w:OwnR lo h v ety sz xs) (wf:WF h) (hlo:lo≤h.n) (hlim:h.lim≤h.n) (hA:appendD h ety sz bytes v ys=A)
  (hb:(xs.length+ys.length)*bytes≤140737488355328) (hb1:1≤bytes) :
  ∃ v' h',A=some (v',h')∧OwnR lo h' v' ety sz (xs++ys)∧Ext lo h h'∧(∀k,k<h.n→NotAt v k→h'.get k=h.get k)∧(∀k,k<h.n→NotAt v k→NotAt v' k):=by
 have hm:xs.length+ys.length≤140737488355328:=Nat.le_trans (Nat.le_mul_of_pos_right _ hb1) hb
 by_cases hy:ys=[]
 ·subst hy
  refine ⟨v,h,?_,by simpa using w,.refl hlo wf,fun _ _ _=>rfl,fun _ _ q=>q⟩
  rw [←hA]
  cases w with
  | nil hv hx=>subst hv;rfl
  | arr id sp cap hv hg _ _=>subst hv;rfl
 ·have hye:ys.isEmpty=false:=by cases ys<;>simp_all
  have hyl:0<ys.length:=List.length_pos_iff.2 hy
  cases w with
  | nil hv hx =>
   subst hv;subst hx
   simp only [List.length_nil,Nat.zero_add]at hb hm
   refine ⟨.sl h.n sz 0 ys.length,h.push (.arr ety sz ys none),?_,.arr h.n [] none rfl (by simp [get_push]) (by exact hlim) hlo,(Ext.refl hlo wf).push,fun k hk _=>by rw [get_push,if_neg (by omega)],fun k hk _ sz' off' len' e=>by injection e;omega⟩
   rw [←hA]
   simp only [appendD,hye]
   rw [if_neg (by simp),if_pos ⟨hb,by omega⟩]
  | arr id sp cap hv hg hl hi =>
   subst hv
   have hlt:=get_some_lt hg
   have hne:∀k,NotAt (.sl id sz 0 xs.length) k→k≠id:=fun k q e=>by subst e;exact q _ _ _ rfl
   by_cases hin:xs.length+ys.length≤(xs++sp).length
   ·refine ⟨.sl id sz 0 (xs.length+ys.length),h.set id (.arr ety sz (splice (xs++sp) ys xs.length) cap),?_,.arr id (sp.drop ys.length) cap (by simp) ?_ (by exact hl) hi,(Ext.refl hlo wf).set hi hlt,fun k _ q=>by rw [get_set wf hlt,if_neg (hne k q)],fun k _ q sz' off' len' e=>by injection e with e1;exact hne k q e1.symm⟩
    ·rw [←hA];exact appendD_in hg hin hl hb hb1 hy
    ·rw [get_set wf hlt,if_pos rfl]
     simp only [splice,List.take_left',List.append_assoc]
     congr 3
     rw [List.drop_append]
     simp
   ·cases cap with
    | none =>
     refine ⟨.sl h.n sz 0 (xs.length+ys.length),(h.set id .dead).push (.arr ety sz (xs++ys) none),?_,.arr h.n [] none (by simp) ?_ (by exact hlim) hlo,((Ext.refl hlo wf).set hi hlt).push,fun k hk q=>by rw [get_push,if_neg (by show ¬k=h.n;omega),get_set wf hlt,if_neg (hne k q)],fun k hk _ sz' off' len' e=>by injection e;omega⟩
     ·rw [←hA]
      simp only [appendD,hye,hg]
      simp only [Bool.false_eq_true,if_false,true_and,Nat.zero_add,List.drop_zero]
      rw [if_pos ⟨by simp,hb,by omega⟩,if_neg hin,if_pos hl]
      simp
     ·simpa using get_push_new (h:=h.set id .dead)
    | some c =>
     refine ⟨.sl h.n sz 0 (xs.length+ys.length),h.push (.arr ety sz (xs++ys) none),?_,.arr h.n [] none (by simp) ?_ (by exact hlim) hlo,(Ext.refl hlo wf).push,fun k hk _=>by rw [get_push,if_neg (by omega)],fun k hk _ sz' off' len' e=>by injection e;omega⟩
     ·rw [←hA]
      rw [appendD_new hg (by simp) (by omega) hb hb1 hy]
      simp
     ·simpa using get_push_new (h:=h)
def takeL (tree:ID):List Entry→List Entry→List Entry→List Entry×List Entry
 | done,[],ups=>(done,ups)
 | done,e::r,ups=>if e.tree=tree∧e.up=false∧coveredB (done++e::r) tree e.pred=false then takeL tree (done++[{e with up:=true}]) r (ups++[{e with up:=true}]) else takeL tree (done++[e]) r ups
def takeB (b : Broker) (tree sub : ID) (frm : Int) : Broker × List Entry × Bool :=
  match b.entries.find? (isE tree sub) with
  | none => (b, [], false)
  | some e => if e.frm = frm then
      (if e.up = true then ({ b with entries := (takeL tree [] (b.entries.filter fun x => !isE tree sub x) []).1 }, (takeL tree [] (b.entries.filter fun x => !isE tree sub x) []).2, true)
       else ({ b with entries := b.entries.filter fun x => !isE tree sub x }, [], false))
    else (b, [], false)
end Go.Dm.Tc
/-
What functions of the program compute,part 19: an entry taken out (the loop).
-/
namespace Go.Dm.Tc
theorem set_at {α:Type} (l:List α) (e e':α) (r:List α) (sp:List α):(l++e::r++sp).set l.length e'=l++e'::r++sp:=by
 rw [List.append_assoc,List.append_assoc,List.set_append_right _ _ (Nat.le_refl _)]
 simp
theorem own_set {lo:Nat} {h:Heap} {v:DV} {ety sz:Nat} {xs:List DV} (w:OwnR lo h v ety sz xs) (wf:WF h) {id:Nat} {o:DO} (hlt:id<h.n) (na:NotAt v id):OwnR lo (h.set id o) v ety sz xs:=by
 cases w with
 | nil hv hx=>exact .nil hv hx
 | arr k sp cap hv hg hl hi =>
  have hne:¬k=id:=fun e=>by subst e;exact na _ _ _ hv
  exact .arr k sp cap hv (by rw [get_set wf hlt,if_neg hne];exact hg) hl hi
theorem not_low {lo:Nat} {h:Heap} {v:DV} {ety sz:Nat} {xs:List DV} (w:OwnR lo h v ety sz xs) {k:Nat} (hk:k<lo):NotAt v k:=by
 intro a b c e
 cases w with
 | nil hv hx=>rw [hv]at e;cases e
 | arr id sp cap hv hg hl hi=>rw [hv]at e;injection e;omega
set_option maxRecDepth 8000 in
set_option maxHeartbeats 1600000 in
theorem l34 (S:List Fr) (me:Int) (near:List Int) (adv:List Advert) (seen:List ID) (own:List OwnS) (tc td:Int) (i4 n:Nat) (zb:DO) :
  ∀(rest done ups:List Entry) (f:FEnv) (h:Heap),done.length+rest.length=n→n≤100000→ups.length≤done.length→(∀e∈done++rest,PredOk e.pred) →
   f 4=.ptr 0 6 0 0→f 5=.ptr 1 2 0 0→f 8=.ptr 3 6 0 0→f 56=.sl i4 7 0 n→f 57=.int .i64 n→f 58=.int .i64 done.length →
   h.get 0=some (.arr 29 6 [.agg [.int .i64 me,eL false 1 cInt near,eL false 4 eAdvert adv,eL false 2 eID seen,.sl i4 7 0 n,eL false 3 eOwn own]] (some 1))→h.get 1=some (.arr 37 2 [.agg [.int .i64 tc,.int .i64 td]] (some 1))→h.get 3=some zb →
   OwnI 4 h i4 58 7 ((done++rest).map eEntry)→OwnR 4 h (f 9) 58 7 (ups.map eEntry)→NotAt (f 9) i4→h.lim=0→4≤h.n→WF h →
  ∃ f' h',run D 96 (.block 0::.seq t34k0::S) (.loop t34l0) f h=run D 96 S t34k0 f' h'∧f' 4=.ptr 0 6 0 0∧f' 8=.ptr 3 6 0 0 ∧
   h'.get 0=some (.arr 29 6 [.agg [.int .i64 me,eL false 1 cInt near,eL false 4 eAdvert adv,eL false 2 eID seen,.sl i4 7 0 n,eL false 3 eOwn own]] (some 1))∧h'.get 3=some zb ∧
   OwnI 4 h' i4 58 7 ((takeL ⟨tc,td⟩ done rest ups).1.map eEntry)∧OwnR 4 h' (f' 9) 58 7 ((takeL ⟨tc,td⟩ done rest ups).2.map eEntry)∧(takeL ⟨tc,td⟩ done rest ups).1.length=n∧h'.lim=0∧4≤h'.n∧WF h':=by
 intro rest
 induction rest with
 | nil =>
  intro done ups f h hn hn1 hu hp h4 h5 h8 h56 h57 h58 g0 g1 g3 o4 o9 na hlim hn4 wf
  have:¬(done.length<n):=by simp at hn;omega
  rw [run_loop_of t34l0.eq_1]
  simp [h57,h58,this]
  refine ⟨_,_,rfl,by simp [h4],by simp [h8],g0,g3,?_,?_,?_,hlim,hn4,wf⟩
  ·simpa [takeL] using o4
  ·simpa [takeL] using o9
  ·simpa [takeL] using hn
 | cons e rest ih =>
  intro done ups f h hn hn1 hu hp h4 h5 h8 h56 h57 h58 g0 g1 g3 o4 o9 na hlim hn4 wf
  have hlt:done.length<n:=by simp at hn;omega
  have hid:=o4.lt
  have hlo:=o4.lo
  have hL:(done++e::rest).length=n:=by simp at hn ⊢;omega
  obtain ⟨⟨sp,cap,g4⟩,hl4,_⟩:=o4
  have hw:IntKind.i64.wrap ((done.length:Int)+1)=(done.length:Int)+1:=wrap64 (by omega) (by omega)
  have n0:¬0=h.n:=by omega
  have n1:¬1=h.n:=by omega
  have n3:¬3=h.n:=by omega
  have n4:¬i4=h.n:=by omega
  have m0:¬h.n=0:=by omega
  have m1:¬h.n=1:=by omega
  have i0:¬0=i4:=by omega
  have i1:¬1=i4:=by omega
  have i3:¬3=i4:=by omega
  have j0:¬i4=0:=by omega
  have j1:¬i4=1:=by omega
  have hia:indexAddrV 7 (.sl i4 7 0 n) (.int .i64 (done.length:Int))=some (.ptr i4 7 done.length 0):=by simp [indexAddrV,asI,hlt]
  have hel:(List.map eEntry (done++e::rest)++sp)[done.length]?=some (eEntry e):=by
   rw [List.getElem?_append_left (by simp),List.getElem?_map,List.getElem?_append_right (Nat.le_refl _)];simp
  have f1:=fun {α:Type} (t:Bool) (sz:Nat) (e:α→DV) (xs:List α)=>(flat_eL t sz e xs).mono (show 1≤20 by decide)
  have hpe:=hp e (by simp)
  have hCv:=s35 (.int .i64 me) (eL false 1 cInt near) (eL false 4 eAdvert adv) (eL false 2 eID seen) (eL false 3 eOwn own) true (done++e::rest) tc td e.pred (by omega) hpe.unlike (Nat.le_trans hpe.len (by decide)) (fun x hx=>Nat.le_trans (hp x hx).len (by decide)) ((flat_int _ _).mono (by decide)) (f1 _ _ _ _) (f1 _ _ _ _) (f1 _ _ _ _) (f1 _ _ _ _)
  have o4R:∀o,OwnR 4 (h.push o) (.sl i4 7 0 n) 58 7 ((done++e::rest).map eEntry):=fun o=>by
   have:=(OwnI.toR (⟨⟨sp,cap,g4⟩,hl4,hlo⟩:OwnI 4 h i4 58 7 ((done++e::rest).map eEntry))).push (o:=o)
   rw [List.length_map,hL]at this
   exact this
  have r4:∀o,resolve true (h.push o) 199 (.sl i4 7 0 n)=some (eL true 7 eEntry (done++e::rest)):=fun o=>(o4R o).resolve true (fun y _=>(plain_entry y).1) (by decide)
  simp only [eEntry]at hel
  have hstep:∀F o,takeL ⟨tc,td⟩ done (e::rest) ups=takeL ⟨tc,td⟩ (done++[e]) rest ups→F 4=.ptr 0 6 0 0→F 5=.ptr 1 2 0 0→F 8=.ptr 3 6 0 0→F 56=.sl i4 7 0 n→F 57=.int .i64 n→F 58=.int .i64 ((done.length:Int)+1)→F 9=f 9 →
    ∃ f' h',run D 96 (.block 0::.seq t34k0::S) (.loop t34l0) F (h.push o)=run D 96 S t34k0 f' h'∧f' 4=.ptr 0 6 0 0∧f' 8=.ptr 3 6 0 0 ∧
   h'.get 0=some (.arr 29 6 [.agg [.int .i64 me,eL false 1 cInt near,eL false 4 eAdvert adv,eL false 2 eID seen,.sl i4 7 0 n,eL false 3 eOwn own]] (some 1))∧h'.get 3=some zb ∧
   OwnI 4 h' i4 58 7 ((takeL ⟨tc,td⟩ done (e::rest) ups).1.map eEntry)∧OwnR 4 h' (f' 9) 58 7 ((takeL ⟨tc,td⟩ done (e::rest) ups).2.map eEntry)∧(takeL ⟨tc,td⟩ done (e::rest) ups).1.length=n∧h'.lim=0∧4≤h'.n∧WF h':=by
   intro F o ht a4 a5 a8 a56 a57 a58 a9
   rw [ht]
   refine ih (done++[e]) ups F _ (by simp at hn ⊢;omega) hn1 (by simp;omega) (by simpa using hp) a4 a5 a8 a56 a57 (by rw [a58];simp) ?_ ?_ ?_ ?_ ?_ ?_ hlim (by show 4≤h.n+1;omega) wf.push
   ·rw [get_push,if_neg n0];exact g0
   ·rw [get_push,if_neg n1];exact g1
   ·rw [get_push,if_neg n3];exact g3
   ·have:=(⟨⟨sp,cap,g4⟩,hl4,hlo⟩:OwnI 4 h i4 58 7 ((done++e::rest).map eEntry)).push (o:=o)
    simpa using this
   ·rw [a9];exact o9.push
   ·rw [a9];exact na
  rw [run_loop_of t34l0.eq_1]
  by_cases ht:e.tree=⟨tc,td⟩
  ·have hc1:e.tree.client=tc:=by rw [ht]
   have hc2:e.tree.seq=td:=by rw [ht]
   cases hup:e.up with
   | true =>
    have hno:takeL ⟨tc,td⟩ done (e::rest) ups=takeL ⟨tc,td⟩ (done++[e]) rest ups:=by simp [takeL,hup]
    simp [h4,h5,h56,h57,h58,hlt,hia,g4,hel,eEntry,hlim,n0,n1,n4,m0,m1,g0,g1,hc1,hc2,hup,hw]
    generalize hF:upd _ 58 _=F
    exact hstep F _ hno (by rw [←hF];simp [h4]) (by rw [←hF];simp [h5]) (by rw [←hF];simp [h8]) (by rw [←hF];simp [h56]) (by rw [←hF];simp [h57]) (by rw [←hF];simp) (by rw [←hF];simp)
   | false =>
    cases hC:coveredB (done++e::rest) ⟨tc,td⟩ e.pred with
    | true =>
     rw [hC]at hCv
     have hno:takeL ⟨tc,td⟩ done (e::rest) ups=takeL ⟨tc,td⟩ (done++[e]) rest ups:=by simp only [takeL];rw [if_neg];rw [hC];simp
     simp [h4,h5,h56,h57,h58,hlt,hia,g4,hel,eEntry,hlim,n0,n1,n4,m0,m1,g0,g1,hc1,hc2,hup,hw,-res_sl_eq,r4,e35,hCv]
     generalize hF:upd _ 58 _=F
     exact hstep F _ hno (by rw [←hF];simp [h4]) (by rw [←hF];simp [h5]) (by rw [←hF];simp [h8]) (by rw [←hF];simp [h56]) (by rw [←hF];simp [h57]) (by rw [←hF];simp) (by rw [←hF];simp)
    | false =>
     rw [hC]at hCv
     have hyes:takeL ⟨tc,td⟩ done (e::rest) ups=takeL ⟨tc,td⟩ (done++[{e with up:=true}]) rest (ups++[{e with up:=true}]):=by simp only [takeL];rw [if_pos ⟨ht,hup,hC⟩]
     simp [h4,h5,h56,h57,h58,hlt,hia,g4,hel,eEntry,hlim,n0,n1,n4,m0,m1,i0,i1,i3,j0,j1,g0,g1,hc1,hc2,hup,hw,-res_sl_eq,r4,e35,hCv,hl4,hid,wf,turn]
     have hset:(List.map eEntry done++DV.agg [.int .i64 tc,.int .i64 td,.int .i64 e.sub.client,.int .i64 e.sub.seq,ePred e.pred,.int .i64 e.frm,.bool false]::List.map eEntry rest++sp).set done.length (.agg [.int .i64 tc,.int .i64 td,.int .i64 e.sub.client,.int .i64 e.sub.seq,ePred e.pred,.int .i64 e.frm,.bool true])=List.map eEntry (done++{e with up:=true}::rest)++sp:=by
      have:=set_at (List.map eEntry done) (DV.agg [.int .i64 tc,.int .i64 td,.int .i64 e.sub.client,.int .i64 e.sub.seq,ePred e.pred,.int .i64 e.frm,.bool false]) (.agg [.int .i64 tc,.int .i64 td,.int .i64 e.sub.client,.int .i64 e.sub.seq,ePred e.pred,.int .i64 e.frm,.bool true]) (List.map eEntry rest) sp
      rw [List.length_map]at this
      rw [this]
      simp [eEntry,hc1,hc2]
     generalize hA:appendD _ _ _ _ _ _=A
     obtain ⟨v',h',rfl,o9',x9,fr9,na9⟩:=append_frame ((own_set o9 wf hid na).push.push) (by simp [wf]) (by simp;omega) (by simp [hlim]) hA (by simp;omega) (by decide)
     clear hA
     have y0:=fr9 0 (by simp) (not_low o9 (by decide))
     have y1:=fr9 1 (by simp) (not_low o9 (by decide))
     have y3:=fr9 3 (by simp;omega) (not_low o9 (by decide))
     have y4:=fr9 i4 (by simp;omega) na
     have ny:=na9 i4 (by simp;omega) na
     have yl:=x9.lim
     have yw:=x9.wf
     have yn:=x9.le
     have n41:¬i4=h.n+1:=by omega
     have n31:¬3=h.n+1:=by omega
     have m2:¬h.n=2:=by omega
     simp [wf,hid,n0,n1,n3,n4,m0,m1,m2,i0,i1,i3,n41,n31,g0,g1,g3,hlim]at y0 y1 y3 y4 yl
     simp [h58,hw]
     generalize hF:upd _ 58 _=F
     rw [hyes]
     refine ih (done++[{e with up:=true}]) (ups++[{e with up:=true}]) F h' (by simp at hn ⊢;omega) hn1 (by simp;omega) ?_ ?_ ?_ ?_ ?_ ?_ ?_ y0 y1 y3 ⟨⟨sp,cap,?_⟩,?_,hlo⟩ ?_ ?_ yl yn yw
     ·intro x hx
      simp only [List.append_assoc,List.singleton_append,List.mem_append,List.mem_cons]at hx
      rcases hx with hx|rfl|hx
      ·exact hp x (by simp [hx])
      ·exact hpe
      ·exact hp x (by simp [hx])
     ·rw [←hF];simp [h4]
     ·rw [←hF];simp [h5]
     ·rw [←hF];simp [h8]
     ·rw [←hF];simp [h56]
     ·rw [←hF];simp [h57]
     ·rw [←hF];simp
     ·rw [y4];simp [eEntry,hc1,hc2]
     ·rw [yl];exact Nat.zero_le _
     ·rw [←hF];simp;simpa [eEntry,hc1,hc2] using o9'
     ·rw [←hF];simp;exact ny
  ·have h1':=id_ne ht
   simp only at h1'
   have hno:takeL ⟨tc,td⟩ done (e::rest) ups=takeL ⟨tc,td⟩ (done++[e]) rest ups:=by simp [takeL,ht]
   simp [h4,h5,h56,h57,h58,hlt,hia,g4,hel,eEntry,hlim,n0,n1,n4,m0,m1,g0,g1,h1',hw]
   generalize hF:upd _ 58 _=F
   exact hstep F _ hno (by rw [←hF];simp [h4]) (by rw [←hF];simp [h5]) (by rw [←hF];simp [h8]) (by rw [←hF];simp [h56]) (by rw [←hF];simp [h57]) (by rw [←hF];simp) (by rw [←hF];simp)
end Go.Dm.Tc
