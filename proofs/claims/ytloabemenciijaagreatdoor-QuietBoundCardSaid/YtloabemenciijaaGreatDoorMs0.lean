/- A part of the proof. -/
import Derived.Test.YtloabemenciijaaGreatDoorTcE
import Derived.Test.YtloabemenciijaaGreatDoorMm5
set_option linter.all false
set_option maxRecDepth 100000
namespace Go.Dm.Tc
end Go.Dm.Tc
/-
What functions of the library compute,part 2: comparisons by a function,rows that rise,searches by halves.
-/
namespace Go.Dm.Tc
def hM{α:Type}(p:α→α→Bool):List α→Bool
 | a::b::r=>p a b && hM p (b::r)
 | _=>true
end Go.Dm.Tc
/-
What functions of the library compute,part 3: the search by halves.
-/
namespace Go.Dm.Tc
def sT{α:Type}(cm:α→Int)(xs:List α):Nat:=xs.findIdx fun x=>!decide (cm x<0)
theorem Xy{α:Type}(cm:α→Int)(xs:List α):sT cm xs≤xs.length:=List.findIdx_le_length
end Go.Dm.Tc
/-
What functions of the library compute,part 4: an element put into a row of the call's own.
-/
namespace Go.Dm.Tc
end Go.Dm.Tc
/-
What functions of the statements' books compute: are two rows the same?
-/
namespace Go.Dm.Tc
end Go.Dm.Tc
/-
What functions of the library compute,part 6: an element taken out of a row of the call's own;elements taken out by a function.
-/
namespace Go.Dm.Tc
def lenOf:DV→Option Nat
 | .nsl=>some 0
 | .sl _ _ _ len=>some len
 | .isl _ _ xs=>some xs.length
 | _=>none
end Go.Dm.Tc
/-
What functions of the library compute,part 7: elements taken out by a function.
-/
namespace Go.Dm.Tc
end Go.Dm.Tc
/-
What functions of the program compute,part 1: how advertisements are ordered and found.
-/
namespace Go.Dm.Tc
theorem Pk(a:Int):pcF D vL [.int .i64 a]=some (.bool false):=by
 unfold pcF
 rw[dI _ _ _ _ (by simp[vL])]
 simp[vL]
def cmpI(a b:Int):Int:=if a<b then -1 else if b<a then 1 else 0
theorem RM(a b:Int):pcF D pF [.int .i64 a,.int .i64 b]=some (.int .i64 (cmpI a b)):=by
 unfold pcF
 rw[dI _ _ _ _ (by simp[pF])]
 by_cases h1:a<b
 ·simp[pF,So,Pk,h1,cmpI]
 ·by_cases h2:b<a
  ·simp[pF,So,Pk,h1,h2,cmpI]
  ·simp[pF,So,Pk,h1,h2,cmpI]
def orI(a b:Int):Int:=if a=0 then b else a
theorem RN(t:Bool)(a b:Int):pcF D vM [.isl t 1 [.int .i64 a,.int .i64 b]]=some (.int .i64 (orI a b)):=by
 unfold pcF
 rw[dI _ _ _ _ (by simp[vM])]
 simp[vM]
 rw[cL nN.eq_1]
 by_cases h1:a=0
 ·simp[h1,orI,bG,asI]
  rw[cL nN.eq_1]
  by_cases h2:b=0
  ·simp[h2,bG,asI]
   rw[cL nN.eq_1]
   simp[yU]
  ·simp[h2,bG,asI]
 ·simp[h1,orI,bG,asI]
def xK(a b:ID):Int:=orI (cmpI a.dK b.dK) (cmpI a.seq b.seq)
def vW(a b:ID):Bool:=decide (xK a b<0)
def tL(l:List ID):Prop:=l.Pairwise fun a b=>xK a b<0
theorem Bi{a b:ID}:xK a b<0↔a.dK<b.dK∨a.dK=b.dK∧a.seq<b.seq:=by
 unfold xK orI cmpI
 split<;>split<;>(try split)<;>(try split)<;>omega
theorem Nd{a b:ID}:xK a b=0↔a=b:=by
 cases a;cases b
 simp only[ID.mk.injEq]
 unfold xK orI cmpI
 simp only
 split<;>split<;>(try split)<;>(try split)<;>omega
end Go.Dm.Tc
/-
What functions of the program compute,part 2: a broker with rows of its own;an advertisement learned.
-/
namespace Go.Dm.Tc
end Go.Dm.Tc
/-
What functions of the program compute,part 3: an advertisement learned,found.
-/
namespace Go.Dm.Tc
section
variable {α:Type} (key:α→ID)
end
def sM(b:aM)(x:ID):Option mN:=b.bI.find? fun a=>a.id=x
def Vh:mN:=⟨⟨0,0⟩,[],0⟩
structure Sized(b:aM):Prop where
 dN:b.dN.length≤100000
 adv:b.bI.length≤100000
 seen:b.seen.length≤100000
 ent:b.entries.length≤100000
 own:b.kJ.length≤100000
end Go.Dm.Tc
/-
What functions of the program compute,part 4: are two brokers the same?
-/
namespace Go.Dm.Tc
structure k9(b:aM):Prop where
 adv:∀x∈b.bI,x.pred.length≤1000000
 ent:∀x∈b.entries,x.pred.length≤1000000
 own:∀x∈b.kJ,x.pred.length≤1000000
end Go.Dm.Tc
/-
What functions of the program compute,part 5: the statements' own comparisons of brokers.
-/
namespace Go.Dm.Tc
end Go.Dm.Tc
/-
What functions of the statements' own packages compute: numbers brought into bounds;predicates xQ of numbers;a broker copied.
-/
namespace Go.Dm.Tc
def cD(n lo hi:Int):Int:=if n.tmod (hi-lo+1)<0 then lo+(n.tmod (hi-lo+1)+hi-lo+1)else lo+n.tmod (hi-lo+1)
theorem s13(n lo hi:Int)(h:lo≤hi)(gQ:-1000000000≤lo)(Gy:hi≤1000000000):pcF D t13 [.int .i64 n,.int .i64 lo,.int .i64 hi]=some (.int .i64 (cD n lo hi)):=by
 unfold pcF
 rw[dI _ _ _ _ (by simp[t13])]
 have h1:0<hi-lo+1:=by omega
 have h2:=Int.tmod_lt_of_pos n h1
 have h3:-(hi-lo+1)<n.tmod (hi-lo+1):=by
  have:=Int.lt_tmod_of_pos n h1
  omega
 have w1:IntKind.i64.wrap (hi-lo)=hi-lo:=cO (by omega) (by omega)
 have w2:IntKind.i64.wrap (hi-lo+1)=hi-lo+1:=cO (by omega) (by omega)
 have dA:hi-lo+1≠0:=by omega
 have hr:aY .rem (.int .i64 n) (.int .i64 (hi-lo+1))=some (.int .i64 (n.tmod (hi-lo+1))):=by simp[aY,dA]
 by_cases Gx:n.tmod (hi-lo+1)<0
 ·have w3:IntKind.i64.wrap (n.tmod (hi-lo+1)+hi)=n.tmod (hi-lo+1)+hi:=cO (by omega) (by omega)
  have w4:IntKind.i64.wrap (n.tmod (hi-lo+1)+hi-lo)=n.tmod (hi-lo+1)+hi-lo:=cO (by omega) (by omega)
  have w5:IntKind.i64.wrap (n.tmod (hi-lo+1)+hi-lo+1)=n.tmod (hi-lo+1)+hi-lo+1:=cO (by omega) (by omega)
  have w6:IntKind.i64.wrap (lo+(n.tmod (hi-lo+1)+hi-lo+1))=lo+(n.tmod (hi-lo+1)+hi-lo+1):=cO (by omega) (by omega)
  simp[t13,w1,w2,hr,Gx,w3,w4,w5,w6,cD]
 ·have w6:IntKind.i64.wrap (lo+n.tmod (hi-lo+1))=lo+n.tmod (hi-lo+1):=cO (by omega) (by omega)
  simp[t13,w1,w2,hr,Gx,w6,cD]
def IU:List (List UInt8):=[[97],[98],[99],[100],[101],[102],[103]]
def DY:List (List UInt8):=[[],[120],[120,121],[120,121,122],[120,122],[121],[121,121]]
def sA(l:List Int)(i:Nat):Int:=if l.length=0 then 0 else l.getD (i % l.length) 0
theorem TW(t:Bool)(l:List Int)(i:Nat):pcF D Iv [eL t 1 iT l,.int .i64 i]=some (.int .i64 (sA l i)):=by
 unfold pcF
 rw[dI _ _ _ _ (by simp[Iv])]
 cases l with
 | nil=>simp[Iv,sA]
 | cons x l =>
  have dA:((l.length:Int)+1)≠0:=by omega
  have hr:aY .rem (.int .i64 (i:Int)) (.int .i64 ((l.length:Int)+1))=some (.int .i64 ((i % (l.length+1):Nat):Int)):=by
   simp only[aY,if_true,if_neg dA]
   congr 2
  have bB:i % (l.length+1)<(x::l).length:=by simp;exact Nat.mod_lt _ (by omega)
  simp[Iv,hr,-Int.natCast_emod,List.getElem?_eq_getElem bB,iT,sA,dA]
def JC(name:List UInt8)(n:Int):Tj :=
 if cD n 0 3=0∨cD n 0 3=1 then⟨name,1,cD (IntKind.i64.wrap (n.tdiv 4)) 0 9,cD (IntKind.i64.wrap (n.tdiv 4)) 0 9+cD (IntKind.i64.wrap (n.tdiv 40)) 0 9,[]⟩
 else⟨name,if cD n 0 3=2 then 2 else 3,0,0,DY.getD (cD (IntKind.i64.wrap (n.tdiv 4)) 0 6).toNat []⟩
end Go.Dm.Tc
/-
What functions of the statements' own packages compute: predicates xQ of numbers.
-/
namespace Go.Dm.Tc
def k8(n:Int):Int:=IntKind.i64.wrap ((BitVec.ofInt 64 n &&& BitVec.ofInt 64 1).toNat:Int)
def TZ(n:Int):Bool:=decide (k8 n=1)
def Gn(has vals:List Int):List (List UInt8)→Nat→eW→eW
 | [],_,Ny=>Ny
 | nm::r,i,Ny=>if i<has.length∧TZ (has.getD i 0)=true∧Ny.length<5 then Gn has vals r (i+1) (Ny++[JC nm (sA vals i)])else Gn has vals r (i+1) Ny
def JB(has vals:List Int):eW:=Gn has vals IU 0 []
end Go.Dm.Tc
/-
What functions of the statements' own packages compute: a broker copied;the reference's orders and searches.
-/
namespace Go.Dm.Tc
end Go.Dm.Tc
/-
What the reference's functions compute,part 1: orders,searches,an advertisement learned.
-/
namespace Go.Dm.Tc
end Go.Dm.Tc
/-
What the reference's functions compute,part 2: an advertisement learned.
-/
namespace Go.Dm.Tc
end Go.Dm.Tc
/-
What functions of the program compute,part 9: what may be a name,a constraint,a predicate.
-/
namespace Go.Dm.Tc
def AS(s:List UInt8):Bool:=s.all fun b=>decide (97≤b.toNat) && decide (b.toNat≤122)
def IV(s:List UInt8):Bool:=AS s && !decide (s=[]) && decide (s.length≤12)
def pI(c : Tj) : Bool :=
  IV c.name &&
    (if c.kind = 1 then decide (c.lo ≤ c.hi) && decide (c.text = [])
     else if c.kind = 3 then !decide (c.text.length = 12) && (decide (c.lo = 0) && decide (c.hi = 0) && decide (c.text.length ≤ 12))
     else if c.kind = 2 then decide (c.lo = 0) && decide (c.hi = 0) && decide (c.text.length ≤ 12)
     else false)
def pK:Option (List UInt8)→eW→Bool
 | _,[]=>true
 | prev,c::r=>pI c && (match prev with|none=>true|some n=>Go.Op.bytesLess n c.name) && pK (some c.name) r
def nR(p:eW):Bool:=pK none p && decide (p.length≤5)
def Hz(p:eW):Prop:=p.length≤1000000∧∀c∈p,c.name.length≤1000000
end Go.Dm.Tc
/-
What functions of the program compute,part 10: is a broker right?
-/
namespace Go.Dm.Tc
def sE(b:aM)(n:Int):Bool:=decide (n=-1) || b.dN.contains n
def SS(t1 s1 t2 s2:ID):Int:=orI (xK t1 t2) (xK s1 s2)
def ltE(x y:bC):Bool:=decide (SS x.tree x.sub y.tree y.sub<0)
theorem kU{α:Type}{key:α→ID}:∀{l:List α},tL (l.map key)→hM (fun x y=>vW (key x) (key y)) l=true
 | [],_=>rfl
 | [a],_=>rfl
 | a::b::r,h=>by
  unfold tL at h
  rw[List.map_cons,List.pairwise_cons]at h
  simp only[hM,Bool.and_eq_true]
  refine⟨?_,kU (l:=b::r) h.2⟩
  have:=h.1 (key b) (by simp)
  simpa[vW]using this
def iI(b:aM)(e:bC):Bool :=
 match b.bI.find? (fun a=>a.id=e.tree)with
 | none=>false
 | some a=>sE b e.Ef && (!decide (e.Ef=a.eB) || decide (a.eB=-1)) && !(e.up && decide (a.eB=-1)) && nR e.pred
end Go.Dm.Tc
/-
What functions of the program compute,part 11: is a broker right? All of it.
-/
namespace Go.Dm.Tc
structure l5(b:aM):Prop where
 adv:∀x∈b.bI,Hz x.pred
 ent:∀x∈b.entries,Hz x.pred
 own:∀x∈b.kJ,Hz x.pred
def pJ(b:aM)(a:mN):Bool:=decide (a.id∈b.seen) && sE b a.eB && nR a.pred
def dT(t:jW)(b:aM):List DV:=[.int .i64 b.me,eL t.dN 1 iT b.dN,eL t.bI 4 oP b.bI,eL t.seen 2 eID b.seen,eL t.entries 7 tA b.entries,eL t.kJ 3 Sn b.kJ]
def vR(b:aM):Bool :=
 hM (fun x y=>decide (x<y)) b.dN && hM (fun x y=>vW x y) b.seen && hM (fun x y:mN=>vW x.id y.id) b.bI && hM (fun x y:A5=>vW x.id y.id) b.kJ && hM ltE b.entries
def Fv(b:aM):Bool :=
 vR b && !(b.bI.any fun a=>!pJ b a) && !(b.entries.any fun e=>!iI b e) && !(b.kJ.any fun o=>!nR o.pred)
end Go.Dm.Tc
/-
What functions of the program compute,part 12: an advertisement forgotten.
-/
namespace Go.Dm.Tc
def TR{α:Type}(key:α→ID)(x:ID)(l:List α):List α:=l.filter fun a=>!decide (key a=x)
end Go.Dm.Tc
/-
What the reference's functions compute,part 3: an advertisement forgotten.
-/
namespace Go.Dm.Tc
end Go.Dm.Tc
/-
Calls that let go of rows,brought into form;closed runs.
-/
namespace Go.Dm.Tc
def Va:Option (DV×aA)→(aA→Option (List DV×aA))→Option (List DV×aA)
 | some (v,h),k=>match k h with|some (r,h')=>some (v::r,h')|none=>none
 | none,_=>none
def DG(v:DV):Option (List DV×aA)→Option (List DV×aA)
 | some (r,h)=>some (v::r,h)
 | none=>none
def TO:Option (List DV×aA)→Option (DV×aA)
 | some (r,h)=>some (.agg r,h)
 | none=>none
theorem tC(v:DV)(r:List DV)(h:aA):DG v (some (r,h))=some (v::r,h):=_root_.id rfl
theorem wM(r:List DV)(h:aA):TO (some (r,h))=some (.agg r,h):=_root_.id rfl
theorem tD(v:DV)(h:aA)(k:aA→Option (List DV×aA)):Va (some (v,h)) k=DG v (k h):=by
 simp only[Va];cases k h<;>rfl
theorem Ad(f:aA→DV→Option (DV×aA))(h:aA):pA f h []=some ([],h):=_root_.id rfl
theorem vV(f:aA→DV→Option (DV×aA))(h:aA)(v:DV)(r:List DV):pA f h (v::r)=Va (f h v) (fun h1=>pA f h1 r):=by
 simp only[pA,Va]
 cases f h v with
 | none=>rfl
 | some p=>rfl
theorem Hg(h:aA)(cs:List DV):eO h (.agg cs)=TO (pA fL h cs):=by
 simp only[eO];cases pA fL h cs<;>rfl
theorem Uw(h:aA)(k:IntKind)(n:Int):eO h (.int k n)=some (.int k n,h):=_root_.id rfl
theorem Rz{α:Type}(h:aA)(t:Bool)(sz:Nat)(e:α→DV)(xs:List α):eO h (eL t sz e xs)=some (eL t sz e xs,h):=by cases xs<;>rfl
theorem Mi(h:aA)(p:eW):eO h (iF p)=some (iF p,h):=Rz ..
theorem Uv(h:aA)(s:List UInt8):eO h (.str s)=some (.str s,h):=_root_.id rfl
theorem Ry(h:aA)(k:IntKind)(n:Int):fL h (.int k n)=some (.int k n,h):=_root_.id rfl
theorem Uu(h:aA)(b:Bool):fL h (.bool b)=some (.bool b,h):=_root_.id rfl
theorem P3(h:aA):fL h .nsl=some (.nsl,h):=_root_.id rfl
theorem Ut{α:Type}(h:aA)(t:Bool)(sz:Nat)(e:α→DV)(xs:List α):fL h (eL t sz e xs)=some (eL t sz e xs,h):=by cases xs<;>rfl
theorem Us(h:aA)(p:eW):fL h (iF p)=some (iF p,h):=Ut ..
theorem P4(h:aA)(t:Bool)(sz:Nat)(xs:List DV):fL h (.isl t sz xs)=some (.isl t sz xs,h):=_root_.id rfl
attribute [simp] tC wM tD Ad vV Hg Uw Rz Mi Uv Ry Uu P3 Ut Us P4 Sw
theorem nn1(n:Nat):(n=n+1)=False:=eq_false (by omega)
theorem mm1(n:Nat):(n+1=n)=False:=eq_false (by omega)
theorem nn2(n:Nat):(n=n+1+1)=False:=eq_false (by omega)
theorem mm2(n:Nat):(n+1+1=n)=False:=eq_false (by omega)
theorem nn3(n:Nat):(n=n+1+1+1)=False:=eq_false (by omega)
theorem mm3(n:Nat):(n+1+1+1=n)=False:=eq_false (by omega)
theorem nn4(n:Nat):(n=n+1+1+1+1)=False:=eq_false (by omega)
theorem mm4(n:Nat):(n+1+1+1+1=n)=False:=eq_false (by omega)
theorem nn5(n:Nat):(n=n+1+1+1+1+1)=False:=eq_false (by omega)
theorem mm5(n:Nat):(n+1+1+1+1+1=n)=False:=eq_false (by omega)
theorem nn6(n:Nat):(n=n+1+1+1+1+1+1)=False:=eq_false (by omega)
theorem mm6(n:Nat):(n+1+1+1+1+1+1=n)=False:=eq_false (by omega)
theorem nn7(n:Nat):(n=n+1+1+1+1+1+1+1)=False:=eq_false (by omega)
theorem mm7(n:Nat):(n+1+1+1+1+1+1+1=n)=False:=eq_false (by omega)
theorem nn8(n:Nat):(n=n+1+1+1+1+1+1+1+1)=False:=eq_false (by omega)
theorem mm8(n:Nat):(n+1+1+1+1+1+1+1+1=n)=False:=eq_false (by omega)
theorem nn9(n:Nat):(n=n+1+1+1+1+1+1+1+1+1)=False:=eq_false (by omega)
theorem mm9(n:Nat):(n+1+1+1+1+1+1+1+1+1=n)=False:=eq_false (by omega)
theorem UC(n:Nat):(n=n+1+1+1+1+1+1+1+1+1+1)=False:=eq_false (by omega)
theorem UF(n:Nat):(n+1+1+1+1+1+1+1+1+1+1=n)=False:=eq_false (by omega)
theorem UB(n:Nat):(n=n+1+1+1+1+1+1+1+1+1+1+1)=False:=eq_false (by omega)
theorem UE(n:Nat):(n+1+1+1+1+1+1+1+1+1+1+1=n)=False:=eq_false (by omega)
theorem UA(n:Nat):(n=n+1+1+1+1+1+1+1+1+1+1+1+1)=False:=eq_false (by omega)
theorem UD(n:Nat):(n+1+1+1+1+1+1+1+1+1+1+1+1=n)=False:=eq_false (by omega)
attribute [simp] nn1 mm1 nn2 mm2 nn3 mm3 nn4 mm4 nn5 mm5 nn6 mm6 nn7 mm7 nn8 mm8 nn9 mm9 UC UF UB UE UA UD
theorem IJ{k n:Nat}{df:aD}{args ds:List DV}{d:DV}(he:∀args h,fc D k args h=nA D df h (args.mapM (resolve true h aW)))(hd:args.mapM (resolve true pX aW)=some ds)(hr:Nk D n k args pX=some (d,pX)):pcF D df ds=some d:=by
 have h1:fc D k args pX=some (d,pX):=yL.2 ⟨n,hr⟩
 rw[he,hd,oV]at h1
 cases h2:pcF D df ds with
 | none=>rw[h2]at h1;cases h1
 | some x=>rw[h2,tH]at h1;injection h1 with h1;injection h1 with h1;rw[h1]
end Go.Dm.Tc
/-
Plain laws,part 1: predicates xQ of numbers are right;rows that rise stay so.
-/
namespace Go.Dm.Tc
structure jG(p:eW):Prop where
 right:nR p=true
 names:Hz p
 len:p.length≤5
end Go.Dm.Tc
/-
Plain laws,part 2: a broker that was told of advertisements alone;sets of IDs as maps.
-/
namespace Go.Dm.Tc
structure Ti(m0:Int)(nr:List Int)(b:aM)(n:Nat):Prop where
 me:b.me=m0
 dN:b.dN=nr
 ent:b.entries=[]
 own:b.kJ=[]
 ra:tL (b.bI.map (·.id))
 rs:tL b.seen
 la:b.bI.length≤n
 ls:b.seen.length≤n
 sub:∀a∈b.bI,a.id∈b.seen
 par:∀a∈b.bI,a.eB=-1∨a.eB∈nr
 prd:∀a∈b.bI,jG a.pred
section
variable {me:Int} {dN:List Int} {b:aM} {n:Nat}
theorem Ti.start(me:Int)(dN:List Int):Ti me dN ⟨me,dN,[],[],[],[]⟩ 0:=⟨rfl,rfl,rfl,rfl,List.Pairwise.nil,List.Pairwise.nil,Nat.le_refl _,Nat.le_refl _,fun a h=>(by cases h),fun a h=>(by cases h),fun a h=>(by cases h)⟩
theorem Ti.mono{m:Nat}(h:Ti me dN b n)(hm:n≤m):Ti me dN b m:={h with la:=Nat.le_trans h.la hm,ls:=Nat.le_trans h.ls hm}
theorem Ti.right(h:Ti me dN b n)(hn:hM (fun x y=>decide (x<y)) dN=true):Fv b=true:=by
 unfold Fv vR
 rw[h.dN,h.ent,h.own,kU (key:=fun a:mN=>a.id) h.ra,show hM (fun x y=>vW x y) b.seen=true from kU (key:=fun a:ID=>a) (by simpa using h.rs),hn]
 have:(b.bI.any fun a=>!pJ b a)=false:=by
  rw[List.any_eq_false]
  intro a ha
  have h1:=h.sub a ha
  have h2:=h.par a ha
  have h3:=(h.prd a ha).right
  have h4:sE b a.eB=true:=by
   unfold sE
   rw[h.dN]
   rcases h2 with e|e
   ·simp[e]
   ·simp[e]
  simp[pJ,h1,h3,h4]
 rw[this]
 rfl
end
def qG(ks:List ID):List (DV×DV):=ks.map fun x=>(.agg [.int .i64 x.dK,.int .i64 x.seq],.bool true)
def Bq(x:ID)(ks:List ID):List ID:=if x∈ks then ks else ks++[x]
theorem rE(c d:Int)(y:ID):eJ (.agg [1,1]) (.agg [.int .i64 c,.int .i64 d]) (.agg [.int .i64 y.dK,.int .i64 y.seq])=some (decide ((⟨c,d⟩:ID)=y)):=by
 cases y with|mk a b=>by_cases h1:c=a<;>by_cases h2:d=b<;>simp[h1,h2]
theorem rC(c d:Int):∀{ks:List ID},(⟨c,d⟩:ID) ∉ ks→pV (.agg [1,1]) (.agg [.int .i64 c,.int .i64 d]) (qG ks)=some 0
 | [],_=>rfl
 | y::r,h=>by
  have h1:(⟨c,d⟩:ID)≠y:=fun e=>h (by rw[e];exact List.mem_cons_self ..)
  have ih:=rC c d (ks:=r) fun hm=>h (List.mem_cons_of_mem _ hm)
  simp only[qG,List.map_cons,pV]
  rw[rE,show pV _ _ (r.map _)=some 0 from ih,decide_eq_false h1]
theorem wF(c d:Int):∀{ks:List ID} (i:Nat),(⟨c,d⟩:ID) ∉ ks→fO (.agg [1,1]) (.agg [.int .i64 c,.int .i64 d]) (qG ks) i=some none
 | [],_,_=>rfl
 | y::r,i,h=>by
  have h1:(⟨c,d⟩:ID)≠y:=fun e=>h (by rw[e];exact List.mem_cons_self ..)
  have ih:=wF c d (ks:=r) (i+1) fun hm=>h (List.mem_cons_of_mem _ hm)
  simp only[qG,List.map_cons,fO]
  rw[rE,decide_eq_false h1]
  exact ih
theorem vZ(c d:Int):∀{ks:List ID},ks.Nodup→(⟨c,d⟩:ID)∈ks→pV (.agg [1,1]) (.agg [.int .i64 c,.int .i64 d]) (qG ks)=some 1
 | [],_,h=>by cases h
 | y::r,hn,h=>by
  rw[List.nodup_cons]at hn
  simp only[qG,List.map_cons,pV]
  by_cases h1:(⟨c,d⟩:ID)=y
  ·rw[rE,decide_eq_true h1,show pV _ _ (r.map _)=some 0 from rC c d (by rw[h1];exact hn.1)]
  ·rw[rE,decide_eq_false h1,show pV _ _ (r.map _)=some 1 from vZ c d hn.2 ((List.mem_cons.1 h).resolve_left h1)]
theorem wE(c d:Int):∀{ks:List ID} (i:Nat),(⟨c,d⟩:ID)∈ks→∃ j,fO (.agg [1,1]) (.agg [.int .i64 c,.int .i64 d]) (qG ks) i=some (some (i+j,.bool true))∧ks[j]?=some ⟨c,d⟩
 | [],_,h=>by cases h
 | y::r,i,h=>by
  simp only[qG,List.map_cons,fO]
  by_cases h1:(⟨c,d⟩:ID)=y
  ·rw[rE,decide_eq_true h1]
   exact⟨0,rfl,by rw[h1];rfl⟩
  ·obtain⟨j,k1,k2⟩:=wE c d (i+1) ((List.mem_cons.1 h).resolve_left h1)
   rw[rE,decide_eq_false h1]
   refine⟨j+1,?_,by simpa using k2⟩
   rw[show i+(j+1)=i+1+j by omega]
   exact k1
theorem Af{ks:List ID}(hn:ks.Nodup)(c d:Int):qZ (.agg [1,1]) (.bool false) false (.agg [.int .i64 c,.int .i64 d]) (some (qG ks))=some (.bool (decide ((⟨c,d⟩:ID)∈ks))):=by
 have he:(eJ (.agg [1,1]) (.agg [.int .i64 c,.int .i64 d]) (.agg [.int .i64 c,.int .i64 d])).isSome=true:=by simp
 simp only[qZ,he,if_true]
 by_cases h:(⟨c,d⟩:ID)∈ks
 ·obtain⟨j,k1,_⟩:=wE c d 0 h
  simp only[lI,vZ c d hn h,k1,decide_eq_true h]
  rfl
 ·simp only[lI,rC c d h,wF c d 0 h,decide_eq_false h]
  rfl
def KC:Option DO→Option (List (DV×DV))
 | some (.mp es)=>some es
 | _=>none
theorem oN(h:aA)(id:Nat):qD h (.map id)=KC (h.get id):=by
 simp only[qD,KC]
 cases h.get id with
 | none=>rfl
 | some o=>cases o<;>rfl
theorem wH(es:List (DV×DV)):KC (some (.mp es))=some es:=_root_.id rfl
def V3(h:aA)(q:EqT)(id:Nat)(k x:DV):Option DO→Option aA
 | some (.mp es)=>if h.lim≤id∧(eJ q k k).isSome=true then
   match lI q k es with
   | some (some (i,_))=>some (h.set id (.mp (es.set i (k,x))))
   | some none=>some (h.set id (.mp (es++[(k,x)])))
   | none=>none
  else none
 | _=>none
theorem Ij(h:aA)(q:EqT)(id:Nat)(k x:DV):tO h q (.map id) k x=V3 h q id k x (h.get id):=by
 simp only[tO,V3]
 cases h.get id with
 | none=>rfl
 | some o=>cases o<;>rfl
theorem Jr{α:Type}:∀{l:List α} {i:Nat} {a:α},l[i]?=some a→l.set i a=l
 | [],i,a,h=>by simp at h
 | x::r,0,a,h=>by simp at h;simp[h]
 | x::r,i+1,a,h=>by simp at h;simp[Jr h]
theorem V1{h:aA}{id:Nat}{ks:List ID}(hn:ks.Nodup)(hl:h.lim≤id)(c d:Int):V3 h (.agg [1,1]) id (.agg [.int .i64 c,.int .i64 d]) (.bool true) (some (.mp (qG ks)))=some (h.set id (.mp (qG (Bq ⟨c,d⟩ ks)))):=by
 have he:(eJ (.agg [1,1]) (.agg [.int .i64 c,.int .i64 d]) (.agg [.int .i64 c,.int .i64 d])).isSome=true:=by simp
 simp only[V3,he,hl,and_self,if_true]
 by_cases hm:(⟨c,d⟩:ID)∈ks
 ·obtain⟨j,k1,k2⟩:=wE c d 0 hm
  simp only[lI,vZ c d hn hm,k1,Nat.zero_add,Bq,if_pos hm]
  have hs:(qG ks).set j (DV.agg [.int .i64 c,.int .i64 d],DV.bool true)=qG ks:=Jr (by simp only[qG,List.getElem?_map,k2];rfl)
  simp only[Nat.le_refl,if_true]
  rw[hs]
 ·simp only[lI,rC c d hm,wF c d 0 hm,Bq,if_neg hm]
  simp[qG]
end Go.Dm.Tc
/-
What functions of the program compute,part 13: is a constraint wider than another one?
-/
namespace Go.Dm.Tc
def Vg(s p:List UInt8):Bool:=decide (p.length≤s.length) && (s.take p.length == p)
def JP(c:Tj)(s:List UInt8):Bool:=if c.kind=2 then s == c.text else if c.kind=3 then Vg s c.text else false
def DL(c x:Tj):Bool :=
 if x.kind=1 then decide (c.kind=1) && decide (c.lo≤x.lo) && decide (x.hi≤c.hi)
 else if x.kind=3 then decide (c.kind=3) && Vg x.text c.text
 else if x.kind=2 then JP c x.text
 else false
end Go.Dm.Tc
/-
What functions of the program compute,part 14: does a predicate cover another one?
-/
namespace Go.Dm.Tc
def T0(p:eW):Prop:=p.Pairwise fun a b=>a.name≠b.name
def Uz(a b:eW):Bool:=a.all fun c=>match b.find? (fun x=>decide (x.name=c.name))with
 | some x=>DL c x
 | none=>false
end Go.Dm.Tc
/-
What functions of the program compute,part 15: an entry's place;an entry found;a tree's entries.
-/
namespace Go.Dm.Tc
def iH(tree sub:ID)(e:bC):Int:=if e.tree=tree∧e.sub=sub then 0 else if vW e.tree tree=true∨(e.tree=tree∧vW e.sub sub=true)then -1 else 1
theorem gS{a b:ID}:vW a b=true↔a.dK<b.dK∨a.dK=b.dK∧a.seq<b.seq:=by
 unfold vW;rw[decide_eq_true_iff,Bi]
theorem ID.ext'{a b:ID}:a=b↔a.dK=b.dK∧a.seq=b.seq:=by cases a;cases b;simp
theorem yC{tree sub:ID}{e:bC}:iH tree sub e<0↔vW e.tree tree=true∨(e.tree=tree∧vW e.sub sub=true):=by
 unfold iH
 split
 ·rename_i h
  rw[h.1,h.2,gS,gS]
  constructor
  ·intro q;omega
  ·rintro(q|⟨_,q⟩)<;>omega
 ·split
  ·rename_i h;exact⟨fun _=>h,fun _=>by decide⟩
  ·rename_i h;exact⟨fun q=>by omega,fun q=>absurd q h⟩
theorem uD{tree sub:ID}{e:bC}:iH tree sub e=0↔e.tree=tree∧e.sub=sub:=by
 unfold iH
 split
 ·rename_i h;exact⟨fun _=>h,fun _=>rfl⟩
 ·rename_i h
  split<;>exact⟨fun q=>by omega,fun q=>absurd q h⟩
theorem AQ(a b:bC):ltE a b=true↔iH b.tree b.sub a<0:=by
 rw[yC,gS,gS]
 unfold ltE SS orI
 rw[decide_eq_true_iff]
 split
 ·rename_i h
  rw[Nd]at h
  rw[Bi,h]
  constructor
  ·intro q;exact .inr ⟨rfl,q⟩
  ·rintro(q|⟨_,q⟩)
   ·omega
   ·exact q
 ·rename_i h
  rw[Nd]at h
  rw[Bi]
  constructor
  ·intro q;exact .inl q
  ·rintro(q|⟨q,_⟩)
   ·exact q
   ·exact absurd q h
def gJ(l:List bC):Prop:=l.Pairwise fun a b=>iH b.tree b.sub a<0
theorem zG{t s:ID}{a b:bC}(h1:iH b.tree b.sub a<0)(h2:iH t s b≤0):iH t s a<0:=by
 rw[yC,gS,gS]at *
 by_cases h0:iH t s b=0
 ·rw[uD]at h0
  rw[h0.1,h0.2]at h1
  exact h1
 ·have h3:iH t s b<0:=by omega
  rw[yC,gS,gS]at h3
  rw[ID.ext']at *
  omega
theorem SA{l:List bC}(h:gJ l)(t s:ID):∀i j (hi:i<l.length) (hj:j<l.length),i≤j→iH t s l[j]<0→iH t s l[i]<0:=by
 intro i j hi hj hij bB
 rcases Nat.lt_or_eq_of_le hij with hl|rfl
 ·exact zG (List.pairwise_iff_getElem.1 h i j hi hj hl) (by omega)
 ·exact bB
theorem Dv:∀{l:List bC},gJ l→hM ltE l=true
 | [],_=>rfl
 | [a],_=>rfl
 | a::b::r,h=>by
  unfold gJ at h
  rw[List.pairwise_cons]at h
  simp only[hM,Bool.and_eq_true]
  exact⟨(AQ a b).2 (h.1 b (List.mem_cons_self ..)),Dv (l:=b::r) h.2⟩
def isE(tree sub:ID)(e:bC):Bool:=decide (e.tree=tree∧e.sub=sub)
end Go.Dm.Tc
/-
What functions of the program compute,part 16: an entry found;a tree's entries;is a predicate covered?
-/
namespace Go.Dm.Tc
def ofT(tree:ID)(l:List bC):List bC:=l.filter fun e=>decide (e.tree=tree)
def dD(l:List bC)(tree:ID)(p:eW):Bool:=(ofT tree l).any fun e=>e.up && Uz e.pred p
end Go.Dm.Tc
/-
What functions of the program compute,part 17: is a broker tight?
-/
namespace Go.Dm.Tc
def eR(b:aM)(x:ID):Int:=((b.bI.find? fun a=>a.id=x).getD Vh).eB
def D0(b:aM)(e:bC):Bool:=e.up || decide (eR b e.tree=-1) || dD b.entries e.tree e.pred
def Oo(b:aM):Bool:=b.entries.all (D0 b)
structure KU(b:aM):Prop where
 unl:∀e∈b.entries,T0 e.pred
 len:∀e∈b.entries,e.pred.length≤1000000
end Go.Dm.Tc
/-
What the reference's functions compute,part 4: an entry's place;is a predicate covered?
-/
namespace Go.Dm.Tc
end Go.Dm.Tc
/-
What the reference's functions compute,part 5: does a predicate cover another one? is it covered?
-/
namespace Go.Dm.Tc
end Go.Dm.Tc
/-
Plain laws,part 3: names of right predicates are unlike;the two coverings are alike. The reference's Covered.
-/
namespace Go.Dm.Tc
theorem CP{a b:UInt8}:(decide (a<b))=decide (a.toNat<b.toNat):=by
 by_cases h:a<b
 ·rw[decide_eq_true h,decide_eq_true (UInt8.lt_iff_toNat_lt.1 h)]
 ·rw[decide_eq_false h,decide_eq_false (fun q=>h (UInt8.lt_iff_toNat_lt.2 q))]
theorem R9:∀a:List UInt8,Go.Op.bytesLess a a=false
 | []=>rfl
 | a::r=>by simp only[Go.Op.bytesLess,CP,R9 r];simp
theorem Bn:∀{a b c:List UInt8},Go.Op.bytesLess a b=true→Go.Op.bytesLess b c=true→Go.Op.bytesLess a c=true
 | _,[],_,h,_=>by cases ‹List UInt8›<;>simp[Go.Op.bytesLess]at h
 | _,_::_,[],_,h=>by simp[Go.Op.bytesLess]at h
 | [],_::_,_::_,_,_=>rfl
 | a::x,b::y,c::z,h1,h2=>by
  simp only[Go.Op.bytesLess,CP,Bool.or_eq_true,Bool.and_eq_true,decide_eq_true_iff,beq_iff_eq]at *
  rcases h1 with h1|⟨rfl,h1⟩
  ·rcases h2 with h2|⟨rfl,h2⟩
   ·exact .inl (by omega)
   ·exact .inl h1
  ·rcases h2 with h2|⟨rfl,h2⟩
   ·exact .inl h2
   ·exact .inr ⟨rfl,Bn h1 h2⟩
theorem uK:∀{p:eW} {prev:Option (List UInt8)},pK prev p=true→(∀n,prev=some n→∀c∈p,Go.Op.bytesLess n c.name=true)∧p.Pairwise fun a b=>Go.Op.bytesLess a.name b.name=true
 | [],_,_=>⟨fun _ _ _ h=>(by cases h),List.Pairwise.nil⟩
 | c::r,prev,h=>by
  simp only[pK,Bool.and_eq_true]at h
  obtain⟨⟨_,h2⟩,h3⟩:=h
  obtain⟨k1,k2⟩:=uK h3
  refine⟨fun n hn d hd=>?_,List.pairwise_cons.2 ⟨fun d hd=>k1 c.name rfl d hd,k2⟩⟩
  subst hn
  rcases List.mem_cons.1 hd with rfl|hd
  ·exact h2
  ·exact Bn h2 (k1 c.name rfl d hd)
theorem wY:∀{p:eW} {prev:Option (List UInt8)},pK prev p=true→∀c∈p,pI c=true
 | [],_,_,_,h=>by cases h
 | c::r,prev,h,d,hd=>by
  simp only[pK,Bool.and_eq_true]at h
  rcases List.mem_cons.1 hd with rfl|hd
  ·exact h.1.1
  ·exact wY h.2 d hd
theorem jG.unlike{p:eW}(h:jG p):T0 p:=by
 have:=h.right
 unfold nR at this
 rw[Bool.and_eq_true]at this
 refine(uK this.1).2.imp fun {a b} hab e=>?_
 rw[e,R9]at hab
 cases hab
theorem jG.each{p:eW}(h:jG p):∀c∈p,pI c=true:=by
 have:=h.right
 unfold nR at this
 rw[Bool.and_eq_true]at this
 exact wY this.1
theorem jG.nil:jG []:=⟨rfl,⟨by decide,fun c h=>by cases h⟩,by decide⟩
end Go.Dm.Tc
/-
What functions of the program compute,part 18: an entry added.
-/
namespace Go.Dm.Tc
def Gs(e:bC)(l:List bC):List bC:=l.take (sT (iH e.tree e.sub) l)++e::l.drop (sT (iH e.tree e.sub) l)
def Gr(b:aM)(e:bC):Bool :=
 match b.bI.find? (fun a=>a.id=e.tree)with
 | none=>false
 | some a=>!(b.entries.any (isE e.tree e.sub)) && !(decide (e.Ef=a.eB) && !decide (a.eB=-1))
def Ok(b:aM)(e:bC):Bool:=!decide (eR b e.tree=-1) && !dD b.entries e.tree e.pred
def qM(b:aM)(e:bC):aM×Bool :=
 if Gr b e=true then({b with entries:=Gs {e with up:=Ok b e} b.entries},Ok b e)else(b,false)
end Go.Dm.Tc
/-
What the reference's functions compute,part 6: an entry added.
-/
namespace Go.Dm.Tc
end Go.Dm.Tc
/-
What the reference's functions compute,part 7: an entry added,all of it.
-/
namespace Go.Dm.Tc
end Go.Dm.Tc
/-
Two rows of one element type side by side: what is put behind one leaves the other one alone.
-/
namespace Go.Dm.Tc
def Vl(v:DV)(k:Nat):Prop:=∀sz off len,v≠.sl k sz off len
theorem Hu{lo:Nat}{h:aA}{v:DV}{ety sz bytes:Nat}{xs ys:List DV}{A:Option (DV×aA)}(w:OwnR lo h v ety sz xs)(wf:WF h)(gQ:lo≤h.n)(dC:h.lim≤h.n)(hA:bN h ety sz bytes v ys=A)
  (hb:(xs.length+ys.length)*bytes≤140737488355328) (Bw:1≤bytes) :
  ∃ v' h',A=some (v',h')∧OwnR lo h' v' ety sz (xs++ys)∧Ext lo h h'∧(∀k,k<h.n→Vl v k→h'.get k=h.get k)∧(∀k,k<h.n→Vl v k→Vl v' k):=by
 have hm:xs.length+ys.length≤140737488355328:=Nat.le_trans (Nat.le_mul_of_pos_right _ Bw) hb
 by_cases hy:ys=[]
 ·subst hy
  refine⟨v,h,?_,by simpa using w,.refl gQ wf,fun _ _ _=>rfl,fun _ _ q=>q⟩
  rw[←hA]
  cases w with
  | nil hv hx=>subst hv;rfl
  | arr id sp cap hv hg _ _=>subst hv;rfl
 ·have Ly:ys.isEmpty=false:=by cases ys<;>simp_all
  have hyl:0<ys.length:=List.length_pos_iff.2 hy
  cases w with
  | nil hv hx =>
   subst hv;subst hx
   simp only[List.length_nil,Nat.zero_add]at hb hm
   refine⟨.sl h.n sz 0 ys.length,h.push (.arr ety sz ys none),?_,.arr h.n [] none rfl (by simp[bQ]) (by exact dC) gQ,(Ext.refl gQ wf).push,fun k hk _=>by rw[bQ,if_neg (by omega)],fun k hk _ cH off' len' e=>by injection e;omega⟩
   rw[←hA]
   simp only[bN,Ly]
   rw[if_neg (by simp),if_pos ⟨hb,by omega⟩]
  | arr id sp cap hv hg hl hi =>
   subst hv
   have bB:=cV hg
   have dA:∀k,Vl (.sl id sz 0 xs.length) k→k≠id:=fun k q e=>by subst e;exact q _ _ _ rfl
   by_cases BI:xs.length+ys.length≤(xs++sp).length
   ·refine⟨.sl id sz 0 (xs.length+ys.length),h.set id (.arr ety sz (dS (xs++sp) ys xs.length) cap),?_,.arr id (sp.drop ys.length) cap (by simp) ?_ (by exact hl) hi,(Ext.refl gQ wf).set hi bB,fun k _ q=>by rw[iO wf bB,if_neg (dA k q)],fun k _ q cH off' len' e=>by injection e with e1;exact dA k q e1.symm⟩
    ·rw[←hA];exact tJ hg BI hl hb Bw hy
    ·rw[iO wf bB,if_pos rfl]
     simp only[dS,List.take_left',List.append_assoc]
     congr 3
     rw[List.drop_append]
     simp
   ·cases cap with
    | none =>
     refine⟨.sl h.n sz 0 (xs.length+ys.length),(h.set id .dead).push (.arr ety sz (xs++ys) none),?_,.arr h.n [] none (by simp) ?_ (by exact dC) gQ,((Ext.refl gQ wf).set hi bB).push,fun k hk q=>by rw[bQ,if_neg (by show ¬k=h.n;omega),iO wf bB,if_neg (dA k q)],fun k hk _ cH off' len' e=>by injection e;omega⟩
     ·rw[←hA]
      simp only[bN,Ly,hg]
      simp only[Bool.false_eq_true,if_false,true_and,Nat.zero_add,List.drop_zero]
      rw[if_pos ⟨by simp,hb,by omega⟩,if_neg BI,if_pos hl]
      simp
     ·simpa using eH (h:=h.set id .dead)
    | some c =>
     refine⟨.sl h.n sz 0 (xs.length+ys.length),h.push (.arr ety sz (xs++ys) none),?_,.arr h.n [] none (by simp) ?_ (by exact dC) gQ,(Ext.refl gQ wf).push,fun k hk _=>by rw[bQ,if_neg (by omega)],fun k hk _ cH off' len' e=>by injection e;omega⟩
     ·rw[←hA]
      rw[qL hg (by simp) (by omega) hb Bw hy]
      simp
     ·simpa using eH (h:=h)
def tU(tree:ID):List bC→List bC→List bC→List bC×List bC
 | done,[],A6=>(done,A6)
 | done,e::r,A6=>if e.tree=tree∧e.up=false∧dD (done++e::r) tree e.pred=false then tU tree (done++[{e with up:=true}]) r (A6++[{e with up:=true}])else tU tree (done++[e]) r A6
def rS(b : aM)(tree sub : ID)(Ef : Int) : aM × List bC × Bool :=
  match b.entries.find? (isE tree sub)with
  | none => (b, [], false)
  | some e => if e.Ef = Ef then
      (if e.up = true then({ b with entries := (tU tree [] (b.entries.filter fun x => !isE tree sub x) []).1 }, (tU tree [] (b.entries.filter fun x => !isE tree sub x) []).2, true)
       else({ b with entries := b.entries.filter fun x => !isE tree sub x }, [], false))
    else(b, [], false)
end Go.Dm.Tc
/-
What functions of the program compute,part 19: an entry taken out (the loop).
-/
namespace Go.Dm.Tc
end Go.Dm.Tc
/-
What functions of the program compute,part 20: an entry taken out.
-/
namespace Go.Dm.Tc
end Go.Dm.Tc
/-
What the reference's functions compute,part 8: an entry taken out (the loop).
-/
namespace Go.Dm.Tc
end Go.Dm.Tc
/-
What the reference's functions compute,part 9: an entry taken out.
-/
namespace Go.Dm.Tc
end Go.Dm.Tc
/-
What every broker keeps that calls xQ: plain laws (learned,forgotten,added,taken out).
-/
namespace Go.Dm.Tc
theorem jO(b:aM)(x:ID):eR b x=((sM b x).getD Vh).eB:=rfl
theorem kM{l:List bC}{t:ID}{p:eW}:dD l t p=true↔∃ e∈l,e.tree=t∧e.up=true∧Uz e.pred p=true:=by
 unfold dD ofT
 rw[List.any_eq_true]
 constructor
 ·rintro⟨e,he,h⟩
  have:=List.mem_filter.1 he
  rw[Bool.and_eq_true]at h
  exact⟨e,this.1,by simpa using this.2,h.1,h.2⟩
 ·rintro⟨e,he,h1,h2,h3⟩
  exact⟨e,List.mem_filter.2 ⟨he,by simpa using h1⟩,by rw[h2,h3];rfl⟩
theorem pR{e x:bC}{l:List bC}:x∈Gs e l↔x=e∨x∈l:=by
 unfold Gs
 rw[List.mem_append,List.mem_cons]
 constructor
 ·rintro(h|h|h)
  ·exact .inr (List.mem_of_mem_take h)
  ·exact .inl h
  ·exact .inr (List.mem_of_mem_drop h)
 ·rintro(h|h)
  ·exact .inr (.inl h)
  ·rw[←List.take_append_drop (sT (iH e.tree e.sub) l) l,List.mem_append]at h
   exact h.elim .inl fun h=>.inr (.inr h)
theorem Lv(e:bC)(l:List bC):(Gs e l).length=l.length+1:=by
 unfold Gs
 rw[List.length_append,List.length_cons,List.length_take,List.length_drop]
 have:=Xy (iH e.tree e.sub) l
 omega
theorem X8{t s:ID}{a:bC}(h1:¬iH t s a<0)(h2:¬(a.tree=t∧a.sub=s))(e:bC)(he:e.tree=t)(he2:e.sub=s):iH a.tree a.sub e<0:=by
 rw[yC,gS,gS]at *
 rw[he,he2]
 rw[ID.ext',ID.ext']at h2
 rw[ID.ext']at *
 omega
theorem Lu{e:bC}{l:List bC}(h:gJ l)(hn:∀x∈l,isE e.tree e.sub x=false):gJ (Gs e l):=by
 unfold gJ Gs
 rw[List.pairwise_append,List.pairwise_cons]
 generalize hk:sT (iH e.tree e.sub) l=k
 have hlow:∀b∈l.take k,iH e.tree e.sub b<0:=by
  intro b hb
  obtain⟨i,hi,rfl⟩:=List.mem_iff_getElem.1 hb
  rw[List.getElem_take]
  rw[List.length_take]at hi
  have:=List.not_of_lt_findIdx (p:=fun x=>!decide (iH e.tree e.sub x<0)) (xs:=l) (i:=i) (by unfold sT at hk;omega)
  simpa using this
 have hhigh:∀b∈l.drop k,iH b.tree b.sub e<0:=by
  intro b hb
  obtain⟨i,hi,rfl⟩:=List.mem_iff_getElem.1 hb
  rw[List.length_drop]at hi
  rw[List.getElem_drop]
  have hkl:k<l.length:=by omega
  have h1:¬iH e.tree e.sub l[k]<0:=by
   have:=List.findIdx_getElem (p:=fun x=>!decide (iH e.tree e.sub x<0)) (xs:=l) (w:=by unfold sT at hk;omega)
   have kD:List.findIdx (fun x=>!decide (iH e.tree e.sub x<0)) l=k:=hk
   simp only[kD]at this
   simpa using this
  have h2:¬iH e.tree e.sub l[k+i]<0:=fun hc=>h1 (SA h _ _ k (k+i) hkl (by omega) (by omega) hc)
  refine X8 h2 ?_ e rfl rfl
  have:=hn l[k+i] (List.getElem_mem _)
  simpa[isE]using this
 refine⟨h.sublist (List.take_sublist ..),⟨fun b hb=>hhigh b hb,h.sublist (List.drop_sublist ..)⟩,?_⟩
 intro x hx y hy
 rcases List.mem_cons.1 hy with rfl|hy
 ·exact hlow x hx
 ·exact zG (hlow x hx) (by have:=hhigh y hy;omega)
structure nD(b:aM):Prop where
 dN:hM (fun x y=>decide (x<y)) b.dN=true
 loc:∀x∈b.dN,0≤x
 ra:tL (b.bI.map (·.id))
 rs:tL b.seen
 ro:tL (b.kJ.map (·.id))
 re:gJ b.entries
 sub:∀a∈b.bI,a.id∈b.seen
 par:∀a∈b.bI,sE b a.eB=true
 pa:∀a∈b.bI,jG a.pred
 po:∀o∈b.kJ,jG o.pred
 ent:∀e∈b.entries,iI b e=true
 pe:∀e∈b.entries,jG e.pred
 tight:Oo b=true
structure SzK(b:aM)(n:Nat):Prop where
 dN:b.dN.length≤1000
 adv:b.bI.length≤n
 seen:b.seen.length≤n
 own:b.kJ.length≤n
 ent:b.entries.length≤n*n
theorem SzK.mono{b:aM}{n m:Nat}(h:SzK b n)(hn:n≤m):SzK b m:=by
 have:=Nat.mul_le_mul hn hn
 obtain⟨h1,h2,h3,h4,h5⟩:=h
 exact⟨h1,by omega,by omega,by omega,by omega⟩
theorem nD.asked{b:aM}(h:nD b):KU b:=⟨fun e he=>(h.pe e he).unlike,fun e he=>Nat.le_trans (h.pe e he).len (by decide)⟩
theorem nD.right{b:aM}(h:nD b):Fv b=true:=by
 unfold Fv vR
 rw[h.dN,kU (key:=fun a:mN=>a.id) h.ra,kU (key:=fun a:A5=>a.id) h.ro,Dv h.re,show hM (fun x y=>vW x y) b.seen=true from kU (key:=fun a:ID=>a) (by simpa using h.rs)]
 have h1:(b.bI.any fun a=>!pJ b a)=false:=by
  rw[List.any_eq_false]
  intro a ha
  simp[pJ,h.sub a ha,h.par a ha,(h.pa a ha).right]
 have h2:(b.entries.any fun e=>!iI b e)=false:=by
  rw[List.any_eq_false]
  intro e he
  simp[h.ent e he]
 have h3:(b.kJ.any fun o=>!nR o.pred)=false:=by
  rw[List.any_eq_false]
  intro o ho
  simp[(h.po o ho).right]
 rw[h1,h2,h3]
 rfl
theorem gF{b:aM}{e:bC}:iI b e=true↔∃ a,sM b e.tree=some a∧sE b e.Ef=true∧(e.Ef=a.eB→a.eB=-1)∧(e.up=true→a.eB≠-1)∧nR e.pred=true:=by
 unfold iI sM
 cases b.bI.find? (fun a=>a.id=e.tree)with
 | none=>simp
 | some a =>
  simp only[Option.some.injEq,exists_eq_left',Bool.and_eq_true,Bool.or_eq_true,Bool.not_eq_true',Bool.and_eq_false_iff,decide_eq_true_eq,decide_eq_false_iff_not]
  constructor
  ·rintro⟨⟨⟨h1,h2⟩,h3⟩,h4⟩
   exact⟨h1,fun q=>h2.resolve_left (fun hn=>hn q),fun q=>h3.resolve_left (by rw[q];decide),h4⟩
  ·rintro⟨h1,h2,h3,h4⟩
   refine⟨⟨⟨h1,?_⟩,?_⟩,h4⟩
   ·by_cases q:e.Ef=a.eB
    ·exact .inr (h2 q)
    ·exact .inl q
   ·cases q:e.up with
    | false=>exact .inl rfl
    | true=>exact .inr (h3 q)
theorem kZ{b:aM}:Oo b=true↔∀e∈b.entries,e.up=true∨eR b e.tree=-1∨dD b.entries e.tree e.pred=true:=by
 unfold Oo
 rw[List.all_eq_true]
 simp only[D0,Bool.or_eq_true,decide_eq_true_eq,or_assoc]
theorem Ag{b b':aM}(h:b'.dN=b.dN)(n:Int):sE b' n=sE b n:=by unfold sE;rw[h]
theorem rZ{b b':aM}{e:bC}(h:b'.dN=b.dN)(ha:sM b' e.tree=sM b e.tree):iI b' e=iI b e:=by
 rw[Bool.eq_iff_iff,gF,gF,ha]
 simp only[Ag h]
theorem nD.start{me:Int}{dN:List Int}(hn:hM (fun x y=>decide (x<y)) dN=true)(hl:∀x∈dN,0≤x):nD ⟨me,dN,[],[],[],[]⟩ :=
 ⟨hn,hl,.nil,.nil,.nil,.nil,fun a h=>(by cases h),fun a h=>(by cases h),fun a h=>(by cases h),fun a h=>(by cases h),fun a h=>(by cases h),fun a h=>(by cases h),rfl⟩
theorem SzK.start{me:Int}{dN:List Int}(hn:dN.length≤1000):SzK ⟨me,dN,[],[],[],[]⟩ 0:=⟨hn,Nat.le_refl _,Nat.le_refl _,Nat.le_refl _,Nat.le_refl _⟩
theorem Ra{b:aM}{e:bC}:Gr b e=true↔∃ a,sM b e.tree=some a∧(∀x∈b.entries,isE e.tree e.sub x=false)∧(e.Ef=a.eB→a.eB=-1):=by
 unfold Gr sM
 cases b.bI.find? (fun a=>a.id=e.tree)with
 | none=>simp
 | some a =>
  simp only[Option.some.injEq,exists_eq_left',Bool.and_eq_true,Bool.not_eq_true',Bool.and_eq_false_iff,List.any_eq_false,Bool.not_eq_true,decide_eq_false_iff_not,Bool.not_eq_false',decide_eq_true_eq]
  refine and_congr Iff.rfl ⟨fun h q=>h.resolve_left (fun hn=>hn q),fun h=>?_⟩
  by_cases q:e.Ef=a.eB
  ·exact .inr (h q)
  ·exact .inl q
theorem vB{l l':List bC}{t:ID}{p:eW}(h:∀e∈l,e∈l')(hc:dD l t p=true):dD l' t p=true:=by
 rw[kM]at *
 obtain⟨e,he,h2⟩:=hc
 exact⟨e,h e he,h2⟩
theorem nD.add{b:aM}(h:nD b){e:bC}(hl:sE b e.Ef=true)(hp:jG e.pred):nD (qM b e).1:=by
 by_cases hm:Gr b e=true
 ·obtain⟨a,ha,Gw,hfp⟩:=Ra.1 hm
  unfold qM
  rw[if_pos hm]
  have hpar:eR b e.tree=a.eB:=by rw[jO,ha];rfl
  refine⟨h.dN,h.loc,h.ra,h.rs,h.ro,?_,h.sub,h.par,h.pa,h.po,?_,?_,?_⟩
  ·exact Lu (e:={e with up:=Ok b e}) h.re Gw
  ·intro x hx
   rw[pR]at hx
   have hs:∀y,iI {b with entries:=Gs {e with up:=Ok b e} b.entries} y=iI b y:=fun y=>rZ rfl rfl
   rw[hs]
   rcases hx with rfl|hx
   ·rw[gF]
    refine⟨a,ha,hl,hfp,?_,hp.right⟩
    intro hu Rn
    simp only[Ok,hpar,Rn]at hu
    simp at hu
   ·exact h.ent x hx
  ·intro x hx
   rw[pR]at hx
   rcases hx with rfl|hx
   ·exact hp
   ·exact h.pe x hx
  ·rw[kZ]
   intro x hx
   have hs:∀y,eR {b with entries:=Gs {e with up:=Ok b e} b.entries} y=eR b y:=fun y=>rfl
   rw[hs]
   have Gt:=hx
   rw[pR]at hx
   rcases hx with rfl|hx
   ·by_cases Rn:a.eB=-1
    ·exact .inr (.inl (by rw[hpar,Rn]))
    ·cases BL:dD b.entries e.tree e.pred with
     | true=>exact .inr (.inr (vB (fun y hy=>pR.2 (.inr hy)) BL))
     | false=>left;simp[Ok,hpar,Rn,BL]
   ·rcases kZ.1 h.tight x hx with h1|h1|h1
    ·exact .inl h1
    ·exact .inr (.inl h1)
    ·exact .inr (.inr (vB (fun y hy=>pR.2 (.inr hy)) h1))
 ·unfold qM
  rw[if_neg hm];exact h
inductive dL(t:ID):List bC→List bC→Prop where
 | nil:dL t [] []
 | keep (e:bC) {l l':List bC} (h:dL t l l'):dL t (e::l) (e::l')
 | up (e:bC) {l l':List bC} (ht:e.tree=t) (hu:e.up=false) (h:dL t l l'):dL t (e::l) ({e with up:=true}::l')
theorem dL.refl(t:ID):∀l,dL t l l
 | []=>.nil
 | e::l=>.keep e (dL.refl t l)
theorem dL.append{t:ID}{a a' b b':List bC}(h:dL t a a')(k:dL t b b'):dL t (a++b) (a'++b'):=by
 induction h with
 | nil=>exact k
 | keep e _ ih=>exact .keep e ih
 | up e ht hu _ ih=>exact .up e ht hu ih
theorem dL.len{t:ID}{a a':List bC}(h:dL t a a'):a'.length=a.length:=by
 induction h with
 | nil=>rfl
 | keep e _ ih=>simp[ih]
 | up e ht hu _ ih=>simp[ih]
theorem dL.mem{t:ID}{a a':List bC}(h:dL t a a'){x:bC}(hx:x∈a'):x∈a∨∃ e∈a,e.tree=t∧e.up=false∧x={e with up:=true}:=by
 induction h with
 | nil=>cases hx
 | keep e _ ih =>
  rcases List.mem_cons.1 hx with rfl|hx
  ·exact .inl (List.mem_cons_self ..)
  ·rcases ih hx with h|⟨y,hy,h⟩
   ·exact .inl (List.mem_cons_of_mem _ h)
   ·exact .inr ⟨y,List.mem_cons_of_mem _ hy,h⟩
 | up e ht hu _ ih =>
  rcases List.mem_cons.1 hx with rfl|hx
  ·exact .inr ⟨e,List.mem_cons_self ..,ht,hu,rfl⟩
  ·rcases ih hx with h|⟨y,hy,h⟩
   ·exact .inl (List.mem_cons_of_mem _ h)
   ·exact .inr ⟨y,List.mem_cons_of_mem _ hy,h⟩
theorem dL.of_mem{t:ID}{a a':List bC}(h:dL t a a'){x:bC}(hx:x∈a):x∈a'∨(x.tree=t∧x.up=false∧{x with up:=true}∈a'):=by
 induction h with
 | nil=>cases hx
 | keep e _ ih =>
  rcases List.mem_cons.1 hx with rfl|hx
  ·exact .inl (List.mem_cons_self ..)
  ·rcases ih hx with h|⟨h1,h2,h3⟩
   ·exact .inl (List.mem_cons_of_mem _ h)
   ·exact .inr ⟨h1,h2,List.mem_cons_of_mem _ h3⟩
 | up e ht hu _ ih =>
  rcases List.mem_cons.1 hx with rfl|hx
  ·exact .inr ⟨ht,hu,List.mem_cons_self ..⟩
  ·rcases ih hx with h|⟨h1,h2,h3⟩
   ·exact .inl (List.mem_cons_of_mem _ h)
   ·exact .inr ⟨h1,h2,List.mem_cons_of_mem _ h3⟩
theorem dL.rising{t:ID}{a a':List bC}(h:dL t a a')(hr:gJ a):gJ a':=by
 induction h with
 | nil=>exact hr
 | keep e h ih =>
  unfold gJ at *
  rw[List.pairwise_cons]at *
  refine⟨fun x hx=>?_,ih hr.2⟩
  rcases h.mem hx with hx|⟨y,hy,_,_,rfl⟩
  ·exact hr.1 x hx
  ·exact hr.1 y hy
 | up e ht hu h ih =>
  unfold gJ at *
  rw[List.pairwise_cons]at *
  refine⟨fun x hx=>?_,ih hr.2⟩
  have:∀t s,iH t s {e with up:=true}=iH t s e:=fun t s=>rfl
  rw[this]
  rcases h.mem hx with hx|⟨y,hy,_,_,rfl⟩
  ·exact hr.1 x hx
  ·exact hr.1 y hy
theorem dL.covered{t:ID}{a a':List bC}(h:dL t a a'){t':ID}{p:eW}(hc:dD a t' p=true):dD a' t' p=true:=by
 rw[kM]at *
 obtain⟨e,he,h1,h2,h3⟩:=hc
 rcases h.of_mem he with hx|⟨_,hx,_⟩
 ·exact⟨e,hx,h1,h2,h3⟩
 ·rw[h2]at hx;cases hx
theorem Ey(t:ID):∀(rest done A6:List bC),∃ r',(tU t done rest A6).1=done++r'∧dL t rest r'∧(∀x∈r',x.tree=t→x.up=true∨dD (done++r') t x.pred=true) ∧
  ∃ u',(tU t done rest A6).2=A6++u'∧∀x∈u',x∈r'∧x.tree=t∧x.up=true∧{x with up:=false}∈rest∧dD (done++rest) t x.pred=false:=by
 intro rest
 induction rest with
 | nil=>intro done A6;exact⟨[],by simp[tU],.nil,(fun x hx=>by cases hx),[],by simp[tU],(fun x hx=>by cases hx)⟩
 | cons e rest ih =>
  intro done A6
  unfold tU
  by_cases hc:e.tree=t∧e.up=false∧dD (done++e::rest) t e.pred=false
  ·rw[if_pos hc]
   obtain⟨r',h1,h2,h3,u',h4,h5⟩:=ih (done++[{e with up:=true}]) (A6++[{e with up:=true}])
   refine⟨{e with up:=true}::r',by rw[h1];simp,.up e hc.1 hc.2.1 h2,?_,{e with up:=true}::u',by rw[h4];simp,?_⟩
   ·intro x hx ht
    rcases List.mem_cons.1 hx with rfl|hx
    ·exact .inl rfl
    ·have:=h3 x hx ht
     simpa using this
   ·intro x hx
    rcases List.mem_cons.1 hx with rfl|hx
    ·have he:({{e with up:=true} with up:=false}:bC)=e:=by obtain⟨a1,a2,a3,a4,a5⟩:=e;simp only at hc;rw[hc.2.1]
     exact⟨List.mem_cons_self ..,hc.1,rfl,by rw[he];exact List.mem_cons_self ..,hc.2.2⟩
    ·obtain⟨k1,k2,k3,k4,k5⟩:=h5 x hx
     refine⟨List.mem_cons_of_mem _ k1,k2,k3,List.mem_cons_of_mem _ k4,?_⟩
     have hR:dL t (done++e::rest) (done++[{e with up:=true}]++rest):=by
      rw[List.append_assoc]
      exact(dL.refl t done).append (.up e hc.1 hc.2.1 (.refl t rest))
     cases hq:dD (done++e::rest) t x.pred with
     | false=>rfl
     | true=>rw[hR.covered hq]at k5;cases k5
  ·rw[if_neg hc]
   obtain⟨r',h1,h2,h3,u',h4,h5⟩:=ih (done++[e]) A6
   refine⟨e::r',by rw[h1];simp,.keep e h2,?_,u',h4,?_⟩
   ·intro x hx ht
    rcases List.mem_cons.1 hx with rfl|hx
    ·cases hu:x.up with
     | true=>exact .inl rfl
     | false =>
      cases hq:dD (done++x::rest) t x.pred with
      | true=>exact .inr (((dL.refl t done).append (.keep x h2)).covered hq)
      | false=>exact absurd ⟨ht,hu,hq⟩ hc
    ·have:=h3 x hx ht
     simpa using this
   ·intro x hx
    obtain⟨k1,k2,k3,k4,k5⟩:=h5 x hx
    exact⟨List.mem_cons_of_mem _ k1,k2,k3,List.mem_cons_of_mem _ k4,by simpa using k5⟩
theorem yR{b:aM}(h:nD b)(t s:ID)(q:Int) :
  ((rS b t s q)=(b,[],false)∧∀e∈b.entries,isE t s e=true→e.Ef≠q) ∨
  (∃ e∈b.entries,isE t s e=true∧e.Ef=q∧e.up=false∧rS b t s q=({b with entries:=b.entries.filter fun x=>!isE t s x},[],false)) ∨
  (∃ e∈b.entries,isE t s e=true∧e.Ef=q∧e.up=true∧∃ r' u',rS b t s q=({b with entries:=r'},u',true)∧dL t (b.entries.filter fun x=>!isE t s x) r' ∧
   (∀x∈r',x.tree=t→x.up=true∨dD r' t x.pred=true)∧∀x∈u',x∈r'∧x.tree=t∧x.up=true∧{x with up:=false}∈b.entries.filter (fun x=>!isE t s x)∧dD (b.entries.filter fun x=>!isE t s x) t x.pred=false):=by
 unfold rS
 cases hf:b.entries.find? (isE t s)with
 | none =>
  left
  refine⟨rfl,fun e he hi=>?_⟩
  have:=List.find?_eq_none.1 hf e he
  exact absurd hi this
 | some e =>
  have he:=List.mem_of_find?_eq_some hf
  have hi:=List.find?_some hf
  by_cases hq:e.Ef=q
  ·simp only[if_pos hq]
   cases hu:e.up with
   | false =>
    right;left
    exact⟨e,he,hi,hq,hu,by simp⟩
   | true =>
    right;right
    obtain⟨r',h1,h2,h3,u',h4,h5⟩:=Ey t (b.entries.filter fun x=>!isE t s x) [] []
    refine⟨e,he,hi,hq,hu,r',u',by simp[h1,h4],h2,by simpa using h3,by simpa using h5⟩
  ·left
   refine⟨by simp only[if_neg hq],fun x hx hix=>?_⟩
   have hkey:x=e:=by
    by_cases hxe:x=e
    ·exact hxe
    ·exfalso
     have k1:x.tree=t∧x.sub=s:=by simpa[isE]using hix
     have k2:e.tree=t∧e.sub=s:=by simpa[isE]using hi
     obtain⟨i,O9,rfl⟩:=List.mem_iff_getElem.1 hx
     obtain⟨j,BH,rfl⟩:=List.mem_iff_getElem.1 he
     rcases Nat.lt_trichotomy i j with bB|he|bB
     ·have:=List.pairwise_iff_getElem.1 h.re i j O9 BH bB
      rw[k2.1,k2.2,uD.2 k1]at this;omega
     ·subst he;exact hxe rfl
     ·have:=List.pairwise_iff_getElem.1 h.re j i BH O9 bB
      rw[k1.1,k1.2,uD.2 k2]at this;omega
   rw[hkey];exact hq
theorem nD.entries{b b':aM}(h:nD b)(hb:b'={b with entries:=b'.entries})(hre:gJ b'.entries)(he:∀e∈b'.entries,∃ d∈b.entries,e.tree=d.tree∧e.pred=d.pred∧e.Ef=d.Ef∧(e.up=true→eR b e.tree≠-1))
  (ht:∀e∈b'.entries,e.up=true∨eR b e.tree=-1∨dD b'.entries e.tree e.pred=true):nD b':=by
 have hA:b'.bI=b.bI:=by rw[hb]
 have hN:b'.dN=b.dN:=by rw[hb]
 have hS:b'.seen=b.seen:=by rw[hb]
 have hO:b'.kJ=b.kJ:=by rw[hb]
 have ho:∀x,sM b' x=sM b x:=fun x=>by unfold sM;rw[hA]
 refine⟨by rw[hN];exact h.dN,by rw[hN];exact h.loc,by rw[hA];exact h.ra,by rw[hS];exact h.rs,by rw[hO];exact h.ro,hre,by rw[hA,hS];exact h.sub,?_,by rw[hA];exact h.pa,by rw[hO];exact h.po,?_,?_,?_⟩
 ·intro a ha;rw[Ag hN];rw[hA]at ha;exact h.par a ha
 ·intro e hm
  obtain⟨d,hd,k1,k2,k3,k4⟩:=he e hm
  rw[rZ hN (ho _),gF]
  obtain⟨a,a1,a2,a3,a4,a5⟩:=gF.1 (h.ent d hd)
  refine⟨a,by rw[k1];exact a1,by rw[k3];exact a2,by rw[k3];exact a3,fun hu=>?_,by rw[k2];exact a5⟩
  have:=k4 hu
  rw[jO,k1,a1]at this
  exact this
 ·intro e hm
  obtain⟨d,hd,_,k2,_⟩:=he e hm
  rw[k2];exact h.pe d hd
 ·rw[kZ]
  intro e hm
  have:eR b' e.tree=eR b e.tree:=by rw[jO,ho,←jO]
  rw[this]
  exact ht e hm
theorem nD.up{b:aM}(h:nD b){e:bC}(he:e∈b.entries)(hu:e.up=true):eR b e.tree≠-1:=by
 obtain⟨a,a1,_,_,a4,_⟩:=gF.1 (h.ent e he)
 rw[jO,a1]
 exact a4 hu
theorem nD.take{b:aM}(h:nD b)(t s:ID)(q:Int):nD (rS b t s q).1:=by
 have xU:∀x∈b.entries.filter (fun x=>!isE t s x),x∈b.entries:=fun x hx=>(List.mem_filter.1 hx).1
 have hrf:gJ (b.entries.filter fun x=>!isE t s x):=h.re.sublist (List.filter_sublist ..)
 rcases yR h t s q with⟨hc,_⟩|⟨e,he,hi,_,hu,hc⟩|⟨e,he,hi,_,hu,r',u',hc,hR,htt,_⟩
 ·rw[hc];exact h
 ·rw[hc]
  refine h.entries rfl hrf ?_ ?_
  ·intro x hx
   exact⟨x,xU x hx,rfl,rfl,rfl,fun hux=>h.up (xU x hx) hux⟩
  ·intro x hx
   rcases kZ.1 h.tight x (xU x hx)with h1|h1|h1
   ·exact .inl h1
   ·exact .inr (.inl h1)
   ·refine .inr (.inr ?_)
    rw[kM]at *
    obtain⟨d,hd,k1,k2,k3⟩:=h1
    refine⟨d,List.mem_filter.2 ⟨hd,?_⟩,k1,k2,k3⟩
    cases dG:isE t s d with
    | false=>rfl
    | true =>
     exfalso
     have q1:d.tree=t∧d.sub=s:=by simpa[isE]using dG
     have q2:e.tree=t∧e.sub=s:=by simpa[isE]using hi
     have:d=e:=by
      by_cases hde:d=e
      ·exact hde
      ·exfalso
       obtain⟨i,O9,rfl⟩:=List.mem_iff_getElem.1 hd
       obtain⟨j,BH,rfl⟩:=List.mem_iff_getElem.1 he
       rcases Nat.lt_trichotomy i j with bB|Ig|bB
       ·have:=List.pairwise_iff_getElem.1 h.re i j O9 BH bB
        rw[q2.1,q2.2,uD.2 q1]at this;omega
       ·subst Ig;exact hde rfl
       ·have:=List.pairwise_iff_getElem.1 h.re j i BH O9 bB
        rw[q1.1,q1.2,uD.2 q2]at this;omega
     rw[this,hu]at k2;cases k2
 ·have hpt:eR b t≠-1:=by
   have:=h.up he hu
   have q2:e.tree=t∧e.sub=s:=by simpa[isE]using hi
   rw[q2.1]at this;exact this
  rw[hc]
  refine h.entries rfl (hR.rising hrf) ?_ ?_
  ·intro x hx
   rcases hR.mem hx with hx|⟨y,hy,h1,h2,rfl⟩
   ·exact⟨x,xU x hx,rfl,rfl,rfl,fun hux=>h.up (xU x hx) hux⟩
   ·exact⟨y,xU y hy,rfl,rfl,rfl,fun _=>by rw[h1];exact hpt⟩
  ·intro x hx
   by_cases hxt:x.tree=t
   ·rcases htt x hx hxt with k|k
    ·exact .inl k
    ·exact .inr (.inr (by rw[hxt];exact k))
   ·have Gt:x∈b.entries.filter fun x=>!isE t s x:=by
     rcases hR.mem hx with hx|⟨y,hy,h1,h2,rfl⟩
     ·exact hx
     ·exact absurd h1 hxt
    rcases kZ.1 h.tight x (xU x Gt)with h1|h1|h1
    ·exact .inl h1
    ·exact .inr (.inl h1)
    ·refine .inr (.inr (hR.covered ?_))
     rw[kM]at *
     obtain⟨d,hd,k1,k2,k3⟩:=h1
     refine⟨d,List.mem_filter.2 ⟨hd,?_⟩,k1,k2,k3⟩
     have:¬(d.tree=t∧d.sub=s):=fun hh=>hxt (by rw[←k1];exact hh.1)
     simp[isE,this]
theorem D8{b:aM}(h:nD b)(t s:ID)(q:Int):(rS b t s q).1.entries.length≤b.entries.length:=by
 rcases yR h t s q with⟨hc,_⟩|⟨e,_,_,_,_,hc⟩|⟨e,_,_,_,_,r',u',hc,hR,_⟩
 ·rw[hc];exact Nat.le_refl _
 ·rw[hc];exact List.length_filter_le ..
 ·rw[hc]
  show r'.length≤_
  rw[hR.len];exact List.length_filter_le ..
theorem Vu(b:aM)(t s:ID)(q:Int):(rS b t s q).1={b with entries:=(rS b t s q).1.entries}:=by
 unfold rS
 split
 ·rfl
 ·split
  ·split<;>rfl
  ·rfl
theorem S9(b:aM)(e:bC):(qM b e).1={b with entries:=(qM b e).1.entries}:=by
 unfold qM
 split<;>rfl
theorem CM(b:aM)(e:bC):(qM b e).1.entries.length≤b.entries.length+1:=by
 unfold qM
 split
 ·simp only[Lv];exact Nat.le_refl _
 ·exact Nat.le_succ _
theorem SzK.take{b:aM}{n:Nat}(h:SzK b n)(hi:nD b)(t s:ID)(q:Int):SzK (rS b t s q).1 n:=by
 have h1:=D8 hi t s q
 rw[Vu]at h1 ⊢
 obtain⟨a1,a2,a3,a4,a5⟩:=h
 exact⟨a1,a2,a3,a4,Nat.le_trans h1 a5⟩
theorem SzK.add{b:aM}{n:Nat}(h:SzK b n)(e:bC):SzK (qM b e).1 (n+1):=by
 have h1:=CM b e
 rw[S9]at h1 ⊢
 obtain⟨a1,a2,a3,a4,a5⟩:=h
 have:(n+1)*(n+1)=n*n+n+n+1:=by rw[Nat.add_mul,Nat.mul_add];omega
 exact⟨a1,Nat.le_succ_of_le a2,Nat.le_succ_of_le a3,Nat.le_succ_of_le a4,by simp only at h1 ⊢;omega⟩
end Go.Dm.Tc
/-
Brokers as one datum: what the machine's steps do to it;what functions answer of a broker that calls xQ.
-/
namespace Go.Dm.Tc
theorem KR(t:jW)(b:aM):DV.agg (dT t b)=hI t b:=_root_.id rfl
theorem Zc(sz:Nat)(t:jW)(b:aM):aF sz (hI t b)=dT t b:=_root_.id rfl
theorem KO(t:jW)(b:aM):(dT t b).length=6:=_root_.id rfl
theorem CJ(t:jW)(b:aM):(dT t b).take 6=dT t b:=_root_.id rfl
theorem k6(t:jW)(b:aM):(dT t b)[0]?=some (.int .i64 b.me):=_root_.id rfl
theorem i9(t:jW)(b:aM):(dT t b)[1]?=some (eL t.dN 1 iT b.dN):=_root_.id rfl
theorem i8(t:jW)(b:aM):(dT t b)[2]?=some (eL t.bI 4 oP b.bI):=_root_.id rfl
theorem i7(t:jW)(b:aM):(dT t b)[3]?=some (eL t.seen 2 eID b.seen):=_root_.id rfl
theorem i6(t:jW)(b:aM):(dT t b)[4]?=some (eL t.entries 7 tA b.entries):=_root_.id rfl
theorem i5(t:jW)(b:aM):(dT t b)[5]?=some (eL t.kJ 3 Sn b.kJ):=_root_.id rfl
theorem TL(t:jW)(b:aM)(h:0<(dT t b).length):(dT t b)[0]=.int .i64 b.me:=_root_.id rfl
theorem TK(t:jW)(b:aM)(h:1<(dT t b).length):(dT t b)[1]=eL t.dN 1 iT b.dN:=_root_.id rfl
theorem TJ(t:jW)(b:aM)(h:2<(dT t b).length):(dT t b)[2]=eL t.bI 4 oP b.bI:=_root_.id rfl
theorem TI(t:jW)(b:aM)(h:3<(dT t b).length):(dT t b)[3]=eL t.seen 2 eID b.seen:=_root_.id rfl
theorem TH(t:jW)(b:aM)(h:4<(dT t b).length):(dT t b)[4]=eL t.entries 7 tA b.entries:=_root_.id rfl
theorem TG(t:jW)(b:aM)(h:5<(dT t b).length):(dT t b)[5]=eL t.kJ 3 Sn b.kJ:=_root_.id rfl
theorem Jd(t:jW)(b:aM):aL 6 (hI t b)=true:=_root_.id rfl
theorem IG(tg:Bool)(h:aA)(n:Nat)(t:jW)(b:aM):resolve tg h (n+2) (hI t b)=some (hI t b):=by
 simp[hI]
theorem KW(n:Nat)(b:aM):aO (n+24) (hI .none b)=true:=by
 simp[hI,jW.none]
theorem JW(h:aA)(t:jW)(b:aM):eO h (hI t b)=some (hI t b,h):=by
 simp[hI,Hg,vV,Ad,Ry,Ut,tD,tC,wM]
theorem Ys(off:Nat)(n:Option Nat)(t:jW)(b:aM):Av off n (hI t b)=bO n (dT t b) off:=_root_.id rfl
attribute [simp] KR Zc KO CJ k6 i9 i8 i7 i6 i5 TL TK TJ TI TH TG Jd IG KW JW Ys Uw Rz Mi Uv Hg Ad vV Ry Uu P3 Ut Us P4 tD tC wM
section
variable {b:aM} (t:jW)
end
end Go.Dm.Tc
/-
What the laws' arguments are: numbers of which predicates,steps,brokers are xQ.
-/
namespace Go.Dm.Tc
structure PK where
 has:List Int
 vals:List Int
def PK.pred(p:PK):eW:=JB p.has p.vals
structure TP where
 kind:Int
 Ef:Int
 tree:Int
 dK:Int
 seq:Int
 has:List Int
 vals:List Int
structure BrokK where
 dN:Int
 steps:List TP
end Go.Dm.Tc
/-
More plain laws of brokers: one entry for a tree and a number;what covers itself;what comes of an entry taken out,of one added.
-/
namespace Go.Dm.Tc
end Go.Dm.Tc
/-
Numbers sorted,pairs too: the plain law,and the hook.
-/
namespace Go.Dm.Tc
def atL(L:List Int)(i:Nat):Int:=L.getD i 0
theorem tI{L:List Int}{i:Nat}(h:i<L.length):atL L i=L[i]:=by simp[atL,h]
theorem Yh{α:Type}(lt:α→α→Bool)(x:α)(l:List α):(Cq lt x l).Perm (x::l):=by
 induction l with
 | nil=>exact .refl _
 | cons y r ih =>
  simp only[Cq]
  split
  ·exact(List.Perm.cons y ih).trans (.swap _ _ _)
  ·exact .refl _
theorem xB{α:Type}(lt:α→α→Bool)(l:List α):(eS lt l).Perm l:=by
 induction l with
 | nil=>exact .refl _
 | cons x r ih=>exact(Yh lt x _).trans (.cons x ih)
structure RowS(id:Nat)(sp:List DV)(cap:Option Nat)(h h':aA)(L:List Int):Prop where
 get:h'.get id=some (.arr 3 1 (L.map iT++sp) cap)
 n:h'.n=h.n
 lim:h'.lim=h.lim
 wf:WF h'
 oth:∀k,k≠id→h'.get k=h.get k
theorem AO{α:Type}{un:DV→Option α}{mk:α→DV}(hu:∀x,un (mk x)=some x):∀l:List α,(l.map mk).mapM un=some l:=by
 intro l
 induction l with
 | nil=>rfl
 | cons x r ih=>simp[hu,ih]
theorem Jm{α:Type}{sz:Nat}{un:DV→Option α}{mk:α→DV}{lt:α→α→Bool}(hu:∀x,un (mk x)=some x){h:aA}{id ety:Nat}{sp:List DV}{cap:Option Nat}{L:List α}(g:h.get id=some (.arr ety sz (L.map mk++sp) cap))(hl:h.lim≤id)(hb:L.length≤1000000) :
  lR sz un mk lt h (.sl id sz 0 L.length)=some (.tup [],h.set id (.arr ety sz ((eS lt L).map mk++sp) cap)):=by
 have h1:(L.map mk++sp).take L.length=L.map mk:=by rw[List.take_append_of_le_length (by simp),List.take_of_length_le (by simp)]
 have hp:=(xB lt L).length_eq
 simp only[lR,g,List.drop_zero,h1,AO hu]
 have hb2:L.length<4611686018427387904:=by omega
 rw[if_pos (by first|exact⟨trivial,trivial,hl,by simp,hb2⟩|exact⟨trivial,trivial,hl,by simp⟩)]
 simp only[dS,List.take_zero,List.nil_append,Nat.zero_add,List.length_map,hp]
 rw[List.drop_append_of_le_length (by simp),List.drop_of_length_le (by simp)]
 rfl
end Go.Dm.Tc
/-
AdvertsOrder: numbers sorted,and the same ones struck: the walk.
-/
namespace Go.Dm.Tc
def Br(L:List Int):Prop:=L.Pairwise (·<·)
theorem Ix{A:List Int}{v:Int}(h:Br A)(hv:∀a∈A,a<v):Br (A++[v]):=by
 unfold Br at *
 rw[List.pairwise_append]
 exact⟨h,List.pairwise_singleton ..,fun a ha b hb=>by rw[List.mem_singleton.1 hb];exact hv a ha⟩
theorem qS{L:List Int}{p:Nat}(h:p<L.length):L.take (p+1)=L.take p++[atL L p]:=by
 rw[List.take_succ,List.getElem?_eq_getElem h,tI h];rfl
theorem Dk{M:List Int}{k:Nat}(h:k<M.length)(v:Int):(M.set k v).take (k+1)=M.take k++[v]:=by
 rw[qS (by simpa using h)]
 congr 1
 ·exact List.take_set_of_le (Nat.le_refl _)
 ·simp[atL,h]
structure xO(L M:List Int)(k p:Nat):Prop where
 len:M.length=L.length
 k1:1≤k
 kp:k<p
 pl:p≤L.length
 tail:∀i,p-1≤i→atL M i=atL L i
 strict:Br (M.take k)
 mem:∀x,x∈M.take k↔x∈L.take p
 last:atL M (k-1)=atL L (p-1)
theorem xO.start{L:List Int}{k:Nat}(hs:Br (L.take k))(h1:1≤k)(hk:k<L.length)(he:atL L k=atL L (k-1)):xO L L k (k+1):=by
 refine⟨rfl,h1,by omega,by omega,fun _ _=>rfl,hs,fun x=>?_,by simp[he]⟩
 rw[qS hk,List.mem_append,List.mem_singleton]
 constructor
 ·exact .inl
 ·rintro(h|h)
  ·exact h
  ·rw[h,he]
   have:k-1<L.length:=by omega
   rw[tI this]
   exact List.mem_take_iff_getElem.2 ⟨k-1,by omega,rfl⟩
theorem xO.same{L M:List Int}{k p:Nat}(h:xO L M k p)(hp:p<L.length)(he:atL L p=atL L (p-1)):xO L M k (p+1):=by
 refine⟨h.len,h.k1,by have:=h.kp;omega,by omega,fun i hi=>h.tail i (by omega),h.strict,fun x=>?_,by rw[h.last];simp[he]⟩
 rw[h.mem,qS hp,List.mem_append,List.mem_singleton]
 constructor
 ·exact .inl
 ·rintro(q|q)
  ·exact q
  ·rw[q,he]
   have hkp:=h.kp
   have:p-1<L.length:=by omega
   rw[tI this]
   exact List.mem_take_iff_getElem.2 ⟨p-1,by omega,rfl⟩
theorem xO.more{L M:List Int}{k p:Nat}(h:xO L M k p)(hs:L.Pairwise (·≤·))(hp:p<L.length)(he:atL L p≠atL L (p-1)):xO L (M.set k (atL L p)) (k+1) (p+1):=by
 have hkp:=h.kp
 have DA:=h.k1
 have hkM:k<M.length:=by rw[h.len];omega
 have bB:atL L (p-1)<atL L p:=by
  have:=List.pairwise_iff_getElem.1 hs (p-1) p (by omega) hp (by omega)
  rw[←tI (by omega:p-1<L.length),←tI hp]at this
  omega
 refine⟨by simpa using h.len,by omega,by omega,by omega,?_,?_,?_,?_⟩
 ·intro i hi
  have:atL (M.set k (atL L p)) i=atL M i:=by
   unfold atL
   simp only[List.getD_eq_getElem?_getD,List.getElem?_set]
   rw[if_neg (by omega)]
  rw[this]
  exact h.tail i (by omega)
 ·rw[Dk hkM]
  refine Ix h.strict fun a ha=>?_
  have bJ:a≤atL M (k-1):=by
   obtain⟨i,hi,rfl⟩:=List.mem_take_iff_getElem.1 ha
   by_cases e:i=k-1
   ·subst e;rw[tI (by omega)];exact Int.le_refl _
   ·have:=List.pairwise_iff_getElem.1 h.strict i (k-1) (by simp;omega) (by simp;omega) (by omega)
    simp only[List.getElem_take]at this
    rw[tI (by omega)];omega
  rw[h.last]at bJ
  omega
 ·intro x
  rw[Dk hkM,qS hp,List.mem_append,List.mem_append,h.mem]
 ·have:atL (M.set k (atL L p)) (k+1-1)=atL L p:=by simp[atL,hkM]
  rw[this];rfl
end Go.Dm.Tc
/-
What functions compute,part 30: texts compared;the search among constraints;two constraints in one.
-/
namespace Go.Dm.Tc
theorem KX{a b:UInt8}(h1:¬a<b)(h2:¬b<a):a=b:=by
 rw[UInt8.lt_iff_toNat_lt]at h1 h2
 exact UInt8.toNat_inj.1 (by omega)
theorem Vb:∀{a b:List UInt8},Go.Lib.compareBytes a b<0↔Go.Op.bytesLess a b=true
 | [],[]=>by simp[Go.Lib.compareBytes,Go.Op.bytesLess]
 | [],b::bs=>by simp[Go.Lib.compareBytes,Go.Op.bytesLess]
 | a::az,[]=>by simp[Go.Lib.compareBytes,Go.Op.bytesLess]
 | a::az,b::bz=>by
  have ih:=Vb (a:=az) (b:=bz)
  unfold Go.Lib.compareBytes Go.Op.bytesLess
  by_cases h1:a<b
  ·simp[h1]
  ·by_cases h2:b<a
   ·have:a≠b:=fun e=>by subst e;exact h1 h2
    simp[h1,h2,this]
   ·have:=KX h1 h2
    simp[h1,h2,this,ih]
def KH(s:List UInt8)(c:Tj):Int:=Go.Lib.compareBytes c.name s
end Go.Dm.Tc
/-
What functions compute,part 31: a predicate xQ of constraints.
-/
namespace Go.Dm.Tc
def T2(p:eW):Prop:=(p.map (·.name)).Pairwise fun a b=>Go.Op.bytesLess a b=true
theorem T2.mono{p:eW}(h:T2 p)(s:List UInt8):∀i j (hi:i<p.length) (hj:j<p.length),i≤j→KH s p[j]<0→KH s p[i]<0:=by
 intro i j hi hj hij hc
 unfold KH at *
 rw[Vb]at *
 rcases Nat.lt_or_eq_of_le hij with bB|rfl
 ·have:=List.pairwise_iff_getElem.1 h i j (by simpa using hi) (by simpa using hj) bB
  simp only[List.getElem_map]at this
  exact Bn this hc
 ·exact hc
end Go.Dm.Tc
/-
What functions compute,part 32: pred.Make.
-/
namespace Go.Dm.Tc
end Go.Dm.Tc
/-
What functions compute,part 33: rel.Sample,rel.Joint,rel.Meets.
-/
namespace Go.Dm.Tc
theorem zK:∀{p:eW} {n:Option (List UInt8)},pK n p=true→∀c∈p,pI c=true
 | [],_,_,c,h=>by cases h
 | x::r,n,h,c,hc=>by
  simp only[pK,Bool.and_eq_true]at h
  rcases List.mem_cons.1 hc with rfl|hc
  ·exact h.1.1
  ·exact zK h.2 c hc
theorem jG.one{p:eW}(h:jG p):∀c∈p,pI c=true∧c.name.length≤1000000:=by
 intro c hc
 have h1:=h.right
 unfold nR at h1
 simp only[Bool.and_eq_true]at h1
 exact⟨zK h1.1 c hc,h.names.2 c hc⟩
end Go.Dm.Tc
/-
What the reference's functions compute,part 9: two constraints in one.
-/
namespace Go.Dm.Tc
end Go.Dm.Tc
/-
What the reference's functions compute,part 10: a predicate xQ of constraints.
-/
namespace Go.Dm.Tc
theorem _root_.Go.Dm.OwnR.mapId{lo:Nat}{h:aA}{v:DV}{ety sz:Nat}{xs:List DV}(w:OwnR lo h v ety sz xs):Dm.mapId v=none:=by
 cases w with
 | nil hv _=>subst hv;rfl
 | arr _ _ _ hv=>subst hv;rfl
end Go.Dm.Tc
/-
What the reference's functions compute,part 11: its predicate xQ of constraints;do two predicates meet?
-/
namespace Go.Dm.Tc
end Go.Dm.Tc
/-
What functions compute,part 34: messages put out;to all neighbours but one.
-/
namespace Go.Dm.Tc
structure KT where
 to:Int
 kind:Int
 tree:ID
 id:ID
 pred:eW
 deriving DecidableEq,Inhabited
def CB(o:KT):DV:=.agg [.int .i64 o.to,.int .i64 o.kind,.int .i64 o.tree.dK,.int .i64 o.tree.seq,.int .i64 o.id.dK,.int .i64 o.id.seq,iF o.pred,.isl false 0 []]
def Nz(es:List DV)(os:List KT):Prop:=es.length=os.length∧∀(tag:Bool) (h:aA) (n:Nat),21≤n→es.mapM (resolve tag h n)=some (os.map CB)
theorem Nz.nil:Nz [] []:=⟨rfl,fun _ _ _ _=>rfl⟩
theorem Nz.append{a b:List DV}{x y:List KT}(h1:Nz a x)(h2:Nz b y):Nz (a++b) (x++y):=by
 refine⟨by simp[h1.1,h2.1],fun tag h n hn=>?_⟩
 rw[List.mapM_append,h1.2 tag h n hn,h2.2 tag h n hn]
 simp
def II(to k tc td ic id:Int)(pd ad:DV):DV:=.agg [.int .i64 to,.int .i64 k,.int .i64 tc,.int .i64 td,.int .i64 ic,.int .i64 id,pd,ad]
def Vm(pd:DV)(p:eW):Prop:=pd=iF p∨(pd=.nsl∧p=[])
def CO(ad:DV):Prop:=ad=.nsl∨ad=.isl false 0 []
theorem Vm.res{pd:DV}{p:eW}(h:Vm pd p)(tag:Bool)(hp:aA)(n:Nat)(hn:20≤n):resolve tag hp n pd=some (iF p):=by
 obtain⟨m,rfl⟩:∃ m,n=m+1:=⟨n-1,by omega⟩
 rcases h with rfl|⟨rfl,rfl⟩
 ·exact Kj ..
 ·rfl
theorem CO.res{ad:DV}(h:CO ad)(tag:Bool)(hp:aA)(n:Nat)(hn:20≤n):resolve tag hp n ad=some (.isl false 0 []):=by
 obtain⟨m,rfl⟩:∃ m,n=m+1:=⟨n-1,by omega⟩
 rcases h with rfl|rfl
 ·rfl
 ·rfl
theorem J5{to k tc td ic id:Int}{pd ad:DV}{p:eW}(hp:Vm pd p)(ha:CO ad)(tag:Bool)(h:aA)(n:Nat)(hn:21≤n):resolve tag h n (II to k tc td ic id pd ad)=some (CB ⟨to,k,⟨tc,td⟩,⟨ic,id⟩,p⟩):=by
 obtain⟨m,rfl⟩:∃ m,n=m+1:=⟨n-1,by omega⟩
 obtain⟨q,rfl⟩:∃ q,m=q+1:=⟨m-1,by omega⟩
 have h1:=hp.res tag h (q+1) (by omega)
 have h2:=ha.res tag h (q+1) (by omega)
 unfold II CB
 rw[Ue]
 simp[h1,h2]
theorem Nz.one{to k tc td ic id:Int}{pd ad:DV}{p:eW}(hp:Vm pd p)(ha:CO ad):Nz [II to k tc td ic id pd ad] [⟨to,k,⟨tc,td⟩,⟨ic,id⟩,p⟩] :=
 ⟨rfl,fun tag h n hn=>by simp only[List.mapM_cons,List.mapM_nil,J5 hp ha tag h n hn];rfl⟩
end Go.Dm.Tc
/-
What functions compute,part 35: an advertisement comes by a link.
-/
namespace Go.Dm.Tc
structure ZL(b:aM)(k:Nat):Prop where
 dN:b.dN.length≤100000
 adv:b.bI.length≤100000
 seen:b.seen.length≤100000
 own:b.kJ.length≤100000
 ent:b.entries.length+k≤100000
theorem ZL.less{b:aM}{k m:Nat}(h:ZL b k)(hm:m≤k):ZL b m:=⟨h.dN,h.adv,h.seen,h.own,by have:=h.ent;omega⟩
theorem A4(b:aM)(e:bC):(qM b e).1.dN=b.dN∧(qM b e).1.bI=b.bI∧(qM b e).1.seen=b.seen∧(qM b e).1.kJ=b.kJ∧(qM b e).1.me=b.me∧(qM b e).1.entries.length≤b.entries.length+1:=by
 unfold qM
 split
 ·exact⟨rfl,rfl,rfl,rfl,rfl,by simp only[Lv];omega⟩
 ·exact⟨rfl,rfl,rfl,rfl,rfl,by simp⟩
theorem ZL.add{b:aM}{k:Nat}(h:ZL b (k+1))(e:bC):ZL (qM b e).1 k:=by
 obtain⟨h1,h2,h3,h4,_,h5⟩:=A4 b e
 have:=h.ent
 exact⟨by rw[h1];exact h.dN,by rw[h2];exact h.adv,by rw[h3];exact h.seen,by rw[h4];exact h.own,by omega⟩
end Go.Dm.Tc
/-
TreesTells: the plain law: a path is the same with more room;linked is linked both ways round.
-/
namespace Go.Dm.Tc
theorem zV:∀{n:Nat} {l:List Int},l.Nodup→(∀x∈l,0≤x∧x<n)→l.length≤n
 | 0,[],_,_=>Nat.le_refl _
 | 0,a::l,_,h=>by have:=h a (List.mem_cons_self ..);omega
 | n+1,l,hd,h=>by
  have h1:(l.erase (n:Int)).length≤n:=zV (hd.erase _) fun x hx=>by
   have hm:=(hd.mem_erase_iff).1 hx
   have:=h x hm.2
   have:=hm.1
   omega
  rw[List.length_erase]at h1
  split at h1<;>omega
def Mf(m:Int)(l:Int×Int):Bool:=decide (0≤l.1∧l.1<m∧0≤l.2∧l.2<m∧l.1≠l.2)
def Mg(m:Int)(L:List (Int×Int))(a b:Int):Bool:=L.any fun l=>Mf m l && (decide (l.1=a∧l.2=b) || decide (l.1=b∧l.2=a))
def pY(m:Int)(b:Int):List (Int×Int)→List Int
 | []=>[]
 | l::r=>if Mf m l then(if l.1=b then l.2::pY m b r else if l.2=b then l.1::pY m b r else pY m b r)else pY m b r
theorem Dx(m:Int)(a b:Int):∀L:List (Int×Int),(b∈pY m a L↔Mg m L a b=true)
 | []=>by simp[pY,Mg]
 | l::r=>by
  have ih:=Dx m a b r
  have hl:Mg m (l::r) a b=((Mf m l && (decide (l.1=a∧l.2=b) || decide (l.1=b∧l.2=a))) || Mg m r a b):=rfl
  rw[hl,pY]
  by_cases hm:Mf m l=true
  ·have dA:l.1≠l.2:=by have:=of_decide_eq_true hm;exact this.2.2.2.2
   rw[if_pos hm]
   by_cases h1:l.1=a
   ·rw[if_pos h1]
    have h2:¬(l.1=b∧l.2=a):=fun e=>dA (h1.trans e.2.symm)
    simp[hm,h1,ih]
    constructor
    ·rintro(rfl|h)
     ·exact .inl (.inl rfl)
     ·exact .inr h
    ·rintro((rfl|⟨e1,e2⟩)|h)
     ·exact .inl rfl
     ·exact absurd (h1.trans e2.symm) dA
     ·exact .inr h
   ·rw[if_neg h1]
    by_cases h2:l.2=a
    ·rw[if_pos h2]
     simp[hm,h1,h2,ih]
     exact⟨fun h=>h.imp Eq.symm id,fun h=>h.imp Eq.symm id⟩
    ·rw[if_neg h2]
     simp[hm,h1,h2,ih]
  ·rw[if_neg hm]
   simp[hm,ih]
end Go.Dm.Tc
/-
Graphs: whom a broker is dN;are two linked.
-/
namespace Go.Dm.Tc
def cX(l:Int×Int):DV:=.agg [.int .i64 l.1,.int .i64 l.2]
theorem nT(x:Int×Int):lL 20 (cX x)∧Unl 22 (cX x):=Kv ⟨x.1,x.2⟩
theorem SH(id sz:Nat)(k:IntKind):jB 2 1 (.ptr id sz 0 0) (.int k 0)=some (.ptr id sz 0 0):=rfl
theorem SG(id sz:Nat)(k:IntKind):jB 2 1 (.ptr id sz 0 0) (.int k 1)=some (.ptr id sz 0 1):=rfl
theorem TU(m b:Int)(x:DV):pcF D Vv [.agg [.int .i64 m,x],.int .i64 b]=some (.bool (decide (0≤b∧b<m))):=by
 unfold pcF
 rw[dI _ _ _ _ (by simp[Vv])]
 by_cases h:0≤b<;>by_cases h':b<m<;>simp[Vv,h,h']
theorem TV(t:Bool)(m:Int)(L:List (Int×Int))(l:Int×Int):pcF D Ow [.agg [.int .i64 m,eL t 2 cX L],cX l]=some (.bool (Mf m l)):=by
 obtain⟨a,b⟩:=l
 have hf:∀h,resolve true h 199 (eL t 2 cX L)=some (eL t 2 cX L):=fun h=>kL _ _ _ _ true h 199 (by decide)
 unfold pcF
 rw[dI _ _ _ _ (by simp[Ow])]
 by_cases h1:0≤a∧a<m<;>by_cases h2:0≤b∧b<m<;>by_cases h3:a=b<;>simp[Ow,cX,UM,TU,Mf,h1,h2,h3,hf,SH,SG]
end Go.Dm.Tc
/-
A graph of numbers: right,seven brokers at most.
-/
namespace Go.Dm.Tc
def On(l:Int×Int):ID:=⟨l.1,l.2⟩
theorem Ab{L:List (Int×Int)}{a b:Int}:(⟨a,b⟩:ID)∈L.map On↔(a,b)∈L:=by
 rw[List.mem_map]
 constructor
 ·rintro⟨⟨u,v⟩,h,e⟩
  cases e;exact h
 ·exact fun h=>⟨_,h,rfl⟩
structure cU(m:Int)(L:List (Int×Int)):Prop where
 rng:∀l∈L,0≤l.1∧l.1<m∧0≤l.2∧l.2<m∧l.1≠l.2
 nd:L.Pairwise fun x y=>x≠y∧x≠(y.2,y.1)
def rJ(L:List (Int×Int))(a b:Int):List (Int×Int):=if a=b∨(a,b)∈L∨(b,a)∈L then L else L++[(a,b)]
theorem cU.nil(m:Int):cU m []:=⟨fun l h=>by simp at h,List.Pairwise.nil⟩
theorem cU.put{m:Int}{L:List (Int×Int)}(h:cU m L){a b:Int}(ha:0≤a∧a<m)(hb:0≤b∧b<m):cU m (rJ L a b):=by
 unfold rJ
 split
 ·exact h
 ·rename_i hn
  have h1:a≠b:=fun e=>hn (.inl e)
  have h2:(a,b) ∉ L:=fun e=>hn (.inr (.inl e))
  have h3:(b,a) ∉ L:=fun e=>hn (.inr (.inr e))
  refine⟨fun l hl=>?_,?_⟩
  ·rcases List.mem_append.1 hl with hl|hl
   ·exact h.rng l hl
   ·rw[List.mem_singleton]at hl;subst hl;exact⟨ha.1,ha.2,hb.1,hb.2,h1⟩
  ·rw[List.pairwise_append]
   refine⟨h.nd,List.pairwise_singleton _ _,fun x hx y hy=>?_⟩
   rw[List.mem_singleton]at hy;subst hy
   exact⟨fun e=>h2 (e ▸ hx),fun e=>h3 (e ▸ hx)⟩
theorem zN(L:List (Int×Int))(a b:Int):(rJ L a b).length≤L.length+1:=by
 unfold rJ;split<;>simp
theorem cU.toID_nd{m:Int}{L:List (Int×Int)}(h:cU m L):(L.map On).Nodup:=by
 rw[List.nodup_iff_pairwise_ne,List.pairwise_map]
 refine h.nd.imp fun {x y} hxy e=>hxy.1 ?_
 obtain⟨a,b⟩:=x;obtain⟨c,d⟩:=y
 cases e;rfl
theorem wC{m a:Int}{L:List (Int×Int)}{x:Int}(h:x∈pY m a L):((a,x)∈L∨(x,a)∈L)∧0≤x∧x<m:=by
 rw[Dx]at h
 unfold Mg at h
 rw[List.any_eq_true]at h
 obtain⟨l,hl,h2⟩:=h
 obtain⟨u,v⟩:=l
 rw[Bool.and_eq_true,Bool.or_eq_true]at h2
 have hm:=of_decide_eq_true h2.1
 rcases h2.2 with h3|h3
 ·have:=of_decide_eq_true h3
  obtain⟨e1,e2⟩:=this
  simp only at e1 e2 hm
  subst e1;subst e2
  exact⟨.inl hl,hm.2.2.1,hm.2.2.2.1⟩
 ·have:=of_decide_eq_true h3
  obtain⟨e1,e2⟩:=this
  simp only at e1 e2 hm
  subst e1;subst e2
  exact⟨.inr hl,hm.1,hm.2.1⟩
theorem xD{m a:Int}:∀{L:List (Int×Int)},(L.Pairwise fun x y=>x≠y∧x≠(y.2,y.1))→(pY m a L).Nodup
 | [],_=>List.nodup_nil
 | (u,v)::r,h=>by
  rw[List.pairwise_cons]at h
  have ih:=xD (m:=m) (a:=a) h.2
  rw[pY]
  split
  ·split
   ·rename_i e
    simp only at e
    subst e
    rw[List.nodup_cons]
    refine⟨fun hm=>?_,ih⟩
    rcases(wC hm).1 with h1|h1
    ·exact(h.1 _ h1).1 rfl
    ·exact(h.1 _ h1).2 rfl
   ·split
    ·rename_i e
     simp only at e
     subst e
     rw[List.nodup_cons]
     refine⟨fun hm=>?_,ih⟩
     rcases(wC hm).1 with h1|h1
     ·exact(h.1 _ h1).2 rfl
     ·exact(h.1 _ h1).1 rfl
    ·exact ih
  ·exact ih
theorem cU.dN{m:Int}{L:List (Int×Int)}(h:cU m L)(h0:0≤m)(h7:m≤12)(a:Int):(pY m a L).length≤12:=by
 have:=zV (n:=m.toNat) (xD (m:=m) (a:=a) h.nd) fun x hx=>by have:=(wC hx).2;omega
 omega
structure wN(x0 x1 x2:DV)(h:aA)(m:Int)(L:List (Int×Int)):Prop where
 g0:h.get 0=some (.arr 100 3 [.agg [x0,x1,x2]] (some 1))
 g1:h.get 1=some (.arr 79 2 [.agg [.int .i64 0,.nsl]] (some 1))
 g2:∃ v,h.get 2=some (.arr 79 2 [.agg [.int .i64 m,v]] (some 1))∧OwnR 5 h v 90 2 (L.map cX)
 g3:h.get 3=some (.mp (qG (L.map On)))
 g4:h.get 4=some (.arr 216 1 [.map 3] (some 1))
 lim:h.lim=0
 n:5≤h.n
 wf:WF h
theorem RQ{x0 x1 x2:DV}{h:aA}{m:Int}{L:List (Int×Int)}(g:wN x0 x1 x2 h m L)(ok:cU m L)(hl:L.length≤1000)(a b:Int) :
  ∃ h',fc D 127 [.int .i64 a,.int .i64 b,.ptr 4 1 0 0,.ptr 2 2 0 0] h=some (.tup [],h')∧wN x0 x1 x2 h' m (rJ L a b):=by
 obtain⟨g0,g1,⟨v,g2,ho⟩,g3,g4,lim,hn,wf⟩:=g
 have nd:=ok.toID_nd
 have l1:=Af nd a b
 have l2:=Af nd b a
 have hup:=fun(H:aA) (hl:H.lim≤3)=>V1 (h:=H) (id:=3) nd hl a b
 have e1:((⟨a,b⟩:ID)∈L.map On)=((a,b)∈L):=propext Ab
 have e2:((⟨b,a⟩:ID)∈L.map On)=((b,a)∈L):=propext Ab
 simp only[e1]at l1
 simp only[e2]at l2
 rw[UP,dI _ _ _ _ (by simp[Iw])]
 by_cases h1:a=b
 ·have hp:rJ L a b=L:=by rw[rJ,if_pos (.inl h1)]
  rw[hp]
  refine⟨h,?_,⟨g0,g1,⟨v,g2,ho⟩,g3,g4,lim,hn,wf⟩⟩
  simp[Iw,h1]
  rfl
 ·by_cases h2:(a,b)∈L
  ·have hp:rJ L a b=L:=by rw[rJ,if_pos (.inr (.inl h2))]
   rw[hp]
   refine⟨h,?_,⟨g0,g1,⟨v,g2,ho⟩,g3,g4,lim,hn,wf⟩⟩
   rw[decide_eq_true h2]at l1
   simp[Iw,h1,g0,g1,g2,g3,g4,oN,wH,l1]
   rfl
  ·by_cases h3:(b,a)∈L
   ·have hp:rJ L a b=L:=by rw[rJ,if_pos (.inr (.inr h3))]
    rw[hp]
    refine⟨h,?_,⟨g0,g1,⟨v,g2,ho⟩,g3,g4,lim,hn,wf⟩⟩
    rw[decide_eq_false h2]at l1
    rw[decide_eq_true h3]at l2
    simp[Iw,h1,g0,g1,g2,g3,g4,oN,wH,l1,l2]
    rfl
   ·have hp:rJ L a b=L++[(a,b)]:=by rw[rJ,if_neg (fun hh=>hh.elim h1 fun hh=>hh.elim h2 h3)]
    rw[hp]
    rw[decide_eq_false h2]at l1
    rw[decide_eq_false h3]at l2
    have hadd:Bq ⟨a,b⟩ (L.map On)=(L++[(a,b)]).map On:=by
     rw[Bq,if_neg (fun hm=>h2 (Ab.1 hm)),List.map_append];rfl
    rw[hadd]at hup
    have l3:3<h.n:=by omega
    have l4:2<h.n:=by omega
    simp[Iw,h1,g0,g1,g2,g3,g4,oN,wH,l1,l2,Ij,hup,lim,wf,l3]
    generalize hA:bN _ _ _ _ _ _=A
    obtain⟨v',K,rfl,o',x',_,_⟩:=Hu ((ho.zH wf (by decide) l3).push) (by simp[wf]) (by simp;omega) (by simp[lim]) hA (by simp;omega) (by decide)
    clear hA
    have G0:=x'.get 0 (by decide)
    have G1:=x'.get 1 (by decide)
    have G2:=x'.get 2 (by decide)
    have G3:=x'.get 3 (by decide)
    have G4:=x'.get 4 (by decide)
    have Kl:=x'.lim
    have Kw:=x'.wf
    have Kn:=x'.le
    have i0:¬0=h.n:=by omega
    have i1:¬1=h.n:=by omega
    have i2:¬2=h.n:=by omega
    have i3:¬3=h.n:=by omega
    have i4:¬4=h.n:=by omega
    simp[i0,i1,i2,i3,i4,g0,g1,g2,g3,g4,lim,wf,l3]at G0 G1 G2 G3 G4 Kl
    have k2:2<K.n:=by omega
    have ws:=o'.aL
    have we:=o'.aF
    simp[G2,Kl,Kw,k2,ws,we,turn]
    refine⟨_,rfl,⟨?_,?_,⟨v',?_,?_⟩,?_,?_,?_,?_,?_⟩⟩
    ·simp[Kw,k2,G0]
    ·simp[Kw,k2,G1]
    ·simp[Kw,k2]
    ·have o'':OwnR 5 K v' 90 2 ((L++[(a,b)]).map cX):=by simpa[cX]using o'
     exact o''.zH Kw (by decide) k2
    ·simp[Kw,k2,G3]
    ·simp[Kw,k2,G4]
    ·simp[Kl]
    ·simp;omega
    ·simp[Kw]
end Go.Dm.Tc
/-
A graph of numbers: the function's walk.
-/
namespace Go.Dm.Tc
def pE(under:List Int):Nat→List (Int×Int)
 | 0=>[]
 | n+1=>rJ (pE under n) ((n:Int)+1) (cD (sA under (n+1)) 0 n)
def sD(m:Int):List Int→List (Int×Int)→List (Int×Int)
 | [],L=>L
 | x::r,L=>sD m r (rJ L (cD x 0 (m-1)) (cD (IntKind.i64.wrap (x.tdiv 8)) 0 (m-1)))
def wA(m:Int)(under more:List Int):List (Int×Int):=sD m (more.take 8) (pE under (m-1).toNat)
theorem qR(under:List Int):∀n,(pE under n).length≤n
 | 0=>Nat.le_refl _
 | n+1=>by have:=zN (pE under n) ((n:Int)+1) (cD (sA under (n+1)) 0 n);have:=qR under n;rw[pE];omega
theorem Dw(m:Int):∀(r:List Int) (L:List (Int×Int)),(sD m r L).length≤L.length+r.length
 | [],L=>by simp[sD]
 | x::r,L=>by
  rw[sD]
  have:=Dw m r (rJ L (cD x 0 (m-1)) (cD (IntKind.i64.wrap (x.tdiv 8)) 0 (m-1)))
  have:=zN L (cD x 0 (m-1)) (cD (IntKind.i64.wrap (x.tdiv 8)) 0 (m-1))
  simp;omega
theorem fH(n lo hi:Int)(h:lo≤hi):lo≤cD n lo hi∧cD n lo hi≤hi:=by
 have h1:0<hi-lo+1:=by omega
 have h2:=Int.tmod_lt_of_pos n h1
 have h3:=Int.lt_tmod_of_pos n h1
 unfold cD
 split<;>omega
theorem tT{m:Int}(under:List Int):∀n:Nat,(n:Int)+1≤m→cU m (pE under n)
 | 0,_=>cU.nil m
 | n+1,h=>by
  have:=fH (sA under (n+1)) 0 n (by omega)
  exact(tT under n (by omega)).put ⟨by omega,by omega⟩ ⟨by omega,by omega⟩
theorem Lj{m:Int}(h1:1≤m):∀(r:List Int) (L:List (Int×Int)),cU m L→cU m (sD m r L)
 | [],L,h=>h
 | x::r,L,h=>by
  have e1:=fH x 0 (m-1) (by omega)
  have e2:=fH (IntKind.i64.wrap (x.tdiv 8)) 0 (m-1) (by omega)
  exact Lj h1 r _ (h.put ⟨by omega,by omega⟩ ⟨by omega,by omega⟩)
theorem Yl{m:Int}(h1:1≤m)(under more:List Int):cU m (wA m under more):=Lj h1 _ _ (tT under _ (by omega))
theorem Rw{m:Int}(h7:m≤7)(under more:List Int):(wA m under more).length≤14:=by
 have:=Dw m (more.take 8) (pE under (m-1).toNat)
 have:=qR under (m-1).toNat
 have:(more.take 8).length≤8:=by simp;omega
 unfold wA;omega
theorem UH(S:List Fr)(P:Res→Prop)(x0 x2:DV)(tu:Bool)(under:List Int)(m:Int)(hm:1≤m∧m≤7) :
  ∀(k i:Nat) (f:eX) (h:aA),(i:Int)+k+1=m→wN x0 (eL tu 1 iT under) x2 h m (pE under i)→f 1=.ptr 0 3 0 0→f 2=.ptr 1 2 0 0→f 3=.ptr 2 2 0 0→f 5=.func 127 [.ptr 4 1 0 0,.ptr 2 2 0 0]→f 6=.int .i64 ((i:Int)+1) →
  (∀F H,wN x0 (eL tu 1 iT under) x2 H m (pE under (m-1).toNat)→F 1=.ptr 0 3 0 0→F 2=.ptr 1 2 0 0→F 3=.ptr 2 2 0 0→F 5=.func 127 [.ptr 4 1 0 0,.ptr 2 2 0 0]→P (run D 63 S Tr F H)) →
  P (run D 63 (.block 0::.seq Tr::S) (.loop Tq) f h):=by
 intro k
 induction k with
 | zero =>
  intro i f h hi g h1 h2 h3 h5 h6 pW
  obtain⟨v,g2,ho⟩:=g.g2
  have e1:i=(m-1).toNat:=by omega
  have e2:¬(i:Int)+1<m:=by omega
  rw[cL Tq.eq_1]
  simp[h3,h6,g2,e2]
  exact pW _ _ (by rw[←e1];exact g) (by simp[h1]) (by simp[h2]) (by simp[h3]) (by simp[h5])
 | succ k ih =>
  intro i f h hi g h1 h2 h3 h5 h6 pW
  obtain⟨v,g2,ho⟩:=g.g2
  have g0:=g.g0
  have e2:(i:Int)+1<m:=by omega
  have hl:=qR under i
  obtain⟨h',hq,g'⟩:=RQ g (tT under i (by omega)) (by omega) ((i:Int)+1) (cD (sA under (i+1)) 0 i)
  have hp:=TW tu under (i+1)
  have T9:pcF D Iv [eL tu 1 iT under,.int .i64 ((i:Int)+1)]=some (.int .i64 (sA under (i+1))):=by simpa using hp
  have hw:=s13 (sA under (i+1)) 0 i (by omega) (by decide) (by omega)
  have w1:IntKind.i64.wrap (i:Int)=i:=cO (by omega) (by omega)
  have w2:IntKind.i64.wrap ((i:Int)+1+1)=(i:Int)+1+1:=cO (by omega) (by omega)
  rw[cL Tq.eq_1]
  simp[h1,h3,h5,h6,g0,g2,e2,UO,T9,e13,hw,w1,w2,hq]
  generalize hF:upd _ 6 _=F
  exact ih (i+1) F h' (by omega) g' (by rw[←hF];simp[h1]) (by rw[←hF];simp[h2]) (by rw[←hF];simp[h3]) (by rw[←hF];simp[h5]) (by rw[←hF];simp) pW
theorem UG(S:List Fr)(P:Res→Prop)(x0 x1:DV)(tm:Bool)(more:List Int)(m:Int)(hm:1≤m∧m≤7) :
  ∀(k i:Nat) (f:eX) (h:aA) (L:List (Int×Int)),i+k=8→L.length≤6+i→cU m L→wN x0 x1 (eL tm 1 iT more) h m L→f 1=.ptr 0 3 0 0→f 2=.ptr 1 2 0 0→f 3=.ptr 2 2 0 0→f 5=.func 127 [.ptr 4 1 0 0,.ptr 2 2 0 0]→f 7=.int .i64 i →
  (∀F H,wN x0 x1 (eL tm 1 iT more) H m (sD m ((more.take 8).drop i) L)→F 2=.ptr 1 2 0 0→F 3=.ptr 2 2 0 0→P (run D 63 S Ts F H)) →
  P (run D 63 (.block 2::.seq Ts::S) (.loop Tp) f h):=by
 intro k
 induction k with
 | zero =>
  intro i f h L hi hl ok g h1 h2 h3 h5 h7 pW
  have g0:=g.g0
  have e1:i=8:=by omega
  subst e1
  have hd:(more.take 8).drop 8=[]:=by simp
  rw[hd,sD]at pW
  rw[cL Tp.eq_1]
  by_cases a1:8<more.length
  ·have a1':(8:Int)<more.length:=by omega
   simp[h1,h7,g0,a1,a1']
   exact pW _ _ g (by simp[h2]) (by simp[h3])
  ·have a1':¬(8:Int)<more.length:=by omega
   simp[h1,h7,g0,a1,a1']
   exact pW _ _ g (by simp[h2]) (by simp[h3])
 | succ k ih =>
  intro i f h L hi hl ok g h1 h2 h3 h5 h7 pW
  obtain⟨v,g2,ho⟩:=g.g2
  have g0:=g.g0
  have lim:=g.lim
  have gn:=g.n
  have a8:i<8:=by omega
  have a8':(i:Int)<8:=by omega
  rw[cL Tp.eq_1]
  by_cases a1:i<more.length
  ·have a1':(i:Int)<more.length:=by omega
   obtain⟨cv,BL⟩:∃ cv,more[i]=cv:=⟨_,rfl⟩
   have hdr:(more.take 8).drop i=cv::(more.take 8).drop (i+1):=by
    rw[List.drop_eq_getElem_cons (by simp;omega)]
    congr 1
    rw[List.getElem_take];exact BL
   rw[hdr,sD]at pW
   have hsv:aY .quo (.int .i64 cv) (.int .i64 8)=some (.int .i64 (IntKind.i64.wrap (cv.tdiv 8))):=rfl
   have w1:=s13 cv 0 (m-1) (by omega) (by decide) (by omega)
   have w2:=s13 (IntKind.i64.wrap (cv.tdiv 8)) 0 (m-1) (by omega) (by decide) (by omega)
   have hw:IntKind.i64.wrap ((i:Int)+1)=(i:Int)+1:=cO (by omega) (by omega)
   have hwm:IntKind.i64.wrap (m-1)=m-1:=cO (by omega) (by omega)
   obtain⟨h',hq,g'⟩:=RQ g ok (by omega) (cD cv 0 (m-1)) (cD (IntKind.i64.wrap (cv.tdiv 8)) 0 (m-1))
   have e1:=fH cv 0 (m-1) (by omega)
   have e2:=fH (IntKind.i64.wrap (cv.tdiv 8)) 0 (m-1) (by omega)
   have ok':=ok.put (a:=cD cv 0 (m-1)) (b:=cD (IntKind.i64.wrap (cv.tdiv 8)) 0 (m-1)) ⟨by omega,by omega⟩ ⟨by omega,by omega⟩
   have Oc:=zN L (cD cv 0 (m-1)) (cD (IntKind.i64.wrap (cv.tdiv 8)) 0 (m-1))
   simp[h1,h3,h5,h7,g0,g2,a1,a1',a8,a8',BL,iT,hsv,e13,w1,w2,hwm,lim,hq,hw]
   generalize hF:upd _ 7 _=F
   exact ih (i+1) F h' _ (by omega) (by omega) ok' g' (by rw[←hF];simp[h1]) (by rw[←hF];simp[h2]) (by rw[←hF];simp[h3]) (by rw[←hF];simp[h5]) (by rw[←hF];simp) pW
  ·have a1':¬(i:Int)<more.length:=by omega
   have hd:(more.take 8).drop i=[]:=by rw[List.drop_eq_nil_iff];simp;omega
   rw[hd,sD]at pW
   simp[h1,h7,g0,a1,a1']
   exact pW _ _ g (by simp[h2]) (by simp[h3])
theorem C8(n:Nat)(xs:List (Int×Int)):aO (n+23) (eL false 2 cX xs)=true:=nM (fun x _=>(nT x).2) _ (by omega)
theorem Mt:aF 1 .nmap=[.nmap]:=rfl
theorem s41(tu tm:Bool)(n:Int)(under more:List Int):pcF D t41 [.agg [.int .i64 n,eL tu 1 iT under,eL tm 1 iT more]]=some (.agg [.int .i64 (cD n 1 7),eL false 2 cX (wA (cD n 1 7) under more)]):=by
 obtain⟨m,hm⟩:∃ m,cD n 1 7=m:=⟨_,rfl⟩
 have hm1:=fH n 1 7 (by decide)
 have hw:=s13 n 1 7 (by decide) (by decide) (by decide)
 rw[hm]at hm1 hw ⊢
 unfold pcF
 rw[dI _ _ _ _ (by simp[t41])]
 simp[t41,e13,hw,turn,Mt,-nU]
 generalize hF:upd _ 6 _=F
 generalize hH:aA.push _ _=H
 refine UH [] (fun r=>pO (fin [.cell 2 (some 2)] r)=_) (.int .i64 n) (eL tm 1 iT more) tu under m hm1 (m-1).toNat 0 F H (by omega) ⟨?_,?_,⟨.nsl,?_,.nil rfl rfl⟩,?_,?_,?_,?_,?_⟩ (by rw[←hF];simp) (by rw[←hF];simp) (by rw[←hF];simp) (by rw[←hF];simp) (by rw[←hF];simp) fun F1 H1 g1 a1 a2 a3 a5=>?_
 ·rw[←hH];simp
 ·rw[←hH];simp
 ·rw[←hH];simp[pE]
 ·rw[←hH];simp[pE,qG]
 ·rw[←hH];simp
 ·rw[←hH];simp
 ·rw[←hH];simp
 ·rw[←hH];simp
 have tl:=qR under (m-1).toNat
 simp[Tr,-nU]
 generalize hF2:upd _ 7 _=F2
 refine UG [] (fun r=>pO (fin [.cell 2 (some 2)] r)=_) (.int .i64 n) (eL tu 1 iT under) tm more m hm1 8 0 F2 H1 _ (by omega) (by omega) (tT under _ (by omega)) g1 (by rw[←hF2];simp[a1]) (by rw[←hF2];simp[a2]) (by rw[←hF2];simp[a3]) (by rw[←hF2];simp[a5]) (by rw[←hF2];simp) fun F3 H3 g3 b2 b3=>?_
 obtain⟨v,g2,ho⟩:=g3.g2
 have gg1:=g3.g1
 have lim:=g3.lim
 have wf:=g3.wf
 have gn:=g3.n
 have k1:1<H3.n:=by omega
 have ws:=ho.aL
 have we:=ho.aF
 have hr:∀o,resolve false (H3.set 1 o) 199 v=some (eL false 2 cX (wA m under more)):=fun o =>
  (ho.zH wf (by decide) k1).resolve false (fun y _=>(nT y).1) (by decide)
 simp[Ts,b2,b3,g2,gg1,lim,wf,k1,ws,we,turn,hr,dF,C8]
structure Ia where
 n:Int
 under:List Int
 more:List Int
def rF(k:Ia):DV:=.agg [.int .i64 k.n,eL false 1 iT k.under,eL false 1 iT k.more]
end Go.Dm.Tc
/-
Networks,part 1: pairs looked for;maps by pairs;rows put together.
-/
namespace Go.Dm.Tc
def kID(x:ID):DV:=.agg [.int .i64 x.dK,.int .i64 x.seq]
def UL(ms:List (ID×DV)):List (DV×DV):=ms.map fun p=>(kID p.1,p.2)
def Hf(ms:List (ID×DV))(x:ID):Option DV:=(ms.find? fun p=>decide (p.1=x)).map (·.2)
def Cm(x:ID)(v:DV):List (ID×DV)→List (ID×DV)
 | []=>[(x,v)]
 | p::r=>if p.1=x then(x,v)::r else p::Cm x v r
theorem O2(x:ID)(v:DV)(ms:List (ID×DV)):(Cm x v ms).map (·.1)=if x∈ms.map (·.1)then ms.map (·.1)else ms.map (·.1)++[x]:=by
 induction ms with
 | nil=>rfl
 | cons p r ih =>
  obtain⟨y,u⟩:=p
  by_cases h:y=x
  ·subst h;simp[Cm]
  ·have h':¬x=y:=fun e=>h e.symm
   simp only[Cm,if_neg h,List.map_cons,ih,List.mem_cons,h',false_or]
   split<;>simp
theorem Xn{x:ID}{v:DV}{ms:List (ID×DV)}(hn:(ms.map (·.1)).Nodup):((Cm x v ms).map (·.1)).Nodup:=by
 rw[O2]
 split
 ·exact hn
 ·rename_i h
  exact List.nodup_append.2 ⟨hn,by simp,fun a ha b hb e=>h (by rw[List.mem_singleton.1 hb]at e;exact e ▸ ha)⟩
theorem BQ(x y:ID)(v:DV)(ms:List (ID×DV)):Hf (Cm x v ms) y=if x=y then some v else Hf ms y:=by
 induction ms with
 | nil =>
  by_cases h:x=y<;>simp[Cm,Hf,h]
 | cons p r ih =>
  obtain⟨z,u⟩:=p
  by_cases h:z=x
  ·subst h
   by_cases h2:z=y<;>simp[Cm,Hf,h2]
  ·simp only[Cm,if_neg h]
   by_cases h2:z=y
   ·subst h2
    have:¬x=z:=fun e=>h e.symm
    simp[Hf,this]
   ·have e1:∀l,Hf ((z,u)::l) y=Hf l y:=fun l=>by simp[Hf,h2]
    rw[e1,e1];exact ih
def yB(v:DV)(l:List Msg):Prop:=(v=.nsl∧l=[])∨∃ sz,v=.isl false sz (l.map KF)∧(sz=7∨l=[])
theorem yB.res{v:DV}{l:List Msg}(r:yB v l)(tag:Bool)(h:aA)(n:Nat):resolve tag h (n+1) v=some (eL false 7 KF l):=by
 rcases r with⟨rfl,rfl⟩|⟨sz,rfl,hs⟩
 ·rfl
 ·cases l with
  | nil=>rfl
  | cons x r=>rcases hs with rfl|hs;rfl;cases hs
theorem yB.len{v:DV}{l:List Msg}(r:yB v l)(h:aA):lenV h 1 v=some (.int .i64 l.length):=by
 rcases r with⟨rfl,rfl⟩|⟨sz,rfl,hs⟩
 ·rfl
 ·simp[lenV]
theorem yB.one{v:DV}{l:List Msg}(r:yB v l):aL 1 v=true:=by
 rcases r with⟨rfl,rfl⟩|⟨sz,rfl,hs⟩<;>rfl
theorem yB.eL(l:List Msg):yB (eL false 7 KF l) l:=by
 cases l with
 | nil=>exact .inr ⟨0,rfl,.inr rfl⟩
 | cons x r=>exact .inr ⟨7,rfl,.inl rfl⟩
end Go.Dm.Tc
/-
Networks,part 2: rows of messages put together;queues as they lie;a message pushed.
-/
namespace Go.Dm.Tc
structure Vi(ms:List (ID×DV))(W:ID→List Msg):Prop where
 nd:(ms.map (·.1)).Nodup
 row:∀x,yB ((Hf ms x).getD .nsl) (W x)
def RJ(W:ID→List Msg)(x:ID)(l:List Msg):ID→List Msg:=fun y=>if x=y then l else W y
theorem Vi.put{ms:List (ID×DV)}{W:ID→List Msg}(r:Vi ms W)(x:ID){v:DV}{l:List Msg}(hv:yB v l):Vi (Cm x v ms) (RJ W x l):=by
 refine⟨Xn r.nd,fun y=>?_⟩
 rw[BQ,RJ]
 by_cases h:x=y
 ·rw[if_pos h,if_pos h];exact hv
 ·rw[if_neg h,if_neg h];exact r.row y
def qO(ways:List (Int×Int))(wid:Nat):DO:=.arr 316 2 [.agg [eL false 2 cX ways,.map wid]] (some 1)
structure QAt(h:aA)(q wid:Nat)(ways:List (Int×Int))(W:ID→List Msg):Prop where
 gq:h.get q=some (qO ways wid)
 gw:∃ ms,h.get wid=some (.mp (UL ms))∧Vi ms W
 lw:h.lim≤wid
 lq:h.lim≤q
structure Upd(h h':aA)(F F':List Nat):Prop where
 n:h.n≤h'.n
 lim:h'.lim=h.lim
 wf:WF h'
 old:∀i,i<h.n→i ∉ F→h'.get i=h.get i
 fp:∀i∈F',i∈F∨h.n≤i
theorem Upd.refl{h:aA}(w:WF h)(F:List Nat):Upd h h F F:=⟨Nat.le_refl _,rfl,w,fun _ _ _=>rfl,fun _ hi=>.inl hi⟩
theorem Upd.trans{a b c : aA}{F G H : List Nat}(x : Upd a b F G)(y : Upd b c G H) : Upd a c F H :=
  ⟨Nat.le_trans x.n y.n, y.lim.trans x.lim, y.wf, fun i hi hn => (y.old i (Nat.lt_of_lt_of_le hi x.n) (fun hg => (x.fp i hg).elim hn (fun h => by omega))).trans (x.old i hi hn),
   fun i hi => (y.fp i hi).elim (fun hg => x.fp i hg) (fun h => .inr (Nat.le_trans x.n h))⟩
theorem Upd.push{a b:aA}{F G:List Nat}(x:Upd a b F G)(o:DO):Upd a (b.push o) F G :=
 ⟨Nat.le_succ_of_le x.n,x.lim,x.wf.push,fun i hi hn=>by rw[cA (Nat.lt_of_lt_of_le hi x.n)];exact x.old i hi hn,x.fp⟩
theorem Upd.set{a b:aA}{F G:List Nat}(x:Upd a b F G){i:Nat}{o:DO}(hi:i∈F∨a.n≤i)(hb:i<b.n):Upd a (b.set i o) F G :=
 ⟨x.n,x.lim,x.wf.set,fun j hj hn=>by rw[aQ hb (fun e=>hi.elim (fun h=>hn (by rw[e];exact h)) (fun h=>by omega))];exact x.old j hj hn,x.fp⟩
theorem Upd.mono{a b:aA}{F G:List Nat}(x:Upd a b F F)(h:∀i∈F,i∈G):Upd a b G G :=
 ⟨x.n,x.lim,x.wf,fun i hi hn=>x.old i hi (fun hf=>hn (h i hf)),fun _ hi=>.inl hi⟩
theorem QAt.old{h h':aA}{q wid:Nat}{ways:List (Int×Int)}{W:ID→List Msg}(Q:QAt h q wid ways W)(hl:h'.lim=h.lim)(h1:h'.get q=h.get q)(h2:h'.get wid=h.get wid):QAt h' q wid ways W :=
 ⟨by rw[h1];exact Q.gq,by rw[h2];exact Q.gw,by rw[hl];exact Q.lw,by rw[hl];exact Q.lq⟩
end Go.Dm.Tc
/-
Networks,part 3: the first message that waits;where something waits.
-/
namespace Go.Dm.Tc
theorem yB.lenV{v:DV}{l:List Msg}(r:yB v l)(h:aA):Dm.lenV h 1 v=some (.int .i64 l.length):=by
 rcases r with⟨rfl,rfl⟩|⟨sz,rfl,_⟩
 ·rfl
 ·simp[Dm.lenV]
end Go.Dm.Tc
/-
Networks,part 4: all ways of a graph,sorted.
-/
namespace Go.Dm.Tc
def mO:List (Int×Int)→List (Int×Int)
 | []=>[]
 | l::r=>l::(l.2,l.1)::mO r
def hJ(L:List (Int×Int)):List (Int×Int):=eS ltP (mO L)
theorem Aa{u v:Int}:∀{L:List (Int×Int)},(u,v)∈mO L↔(u,v)∈L∨(v,u)∈L
 | []=>by simp[mO]
 | l::r=>by
  obtain⟨a,b⟩:=l
  simp only[mO,List.mem_cons,Aa (L:=r),Prod.mk.injEq]
  constructor
  ·rintro(h|h|h|h)
   ·exact .inl (.inl h)
   ·exact .inr (.inl ⟨h.2,h.1⟩)
   ·exact .inl (.inr h)
   ·exact .inr (.inr h)
  ·rintro((h|h)|(h|h))
   ·exact .inl h
   ·exact .inr (.inr (.inl h))
   ·exact .inr (.inl ⟨h.2,h.1⟩)
   ·exact .inr (.inr (.inr h))
theorem yP:∀L:List (Int×Int),(mO L).length=2*L.length
 | []=>rfl
 | l::r=>by simp[mO,yP r];omega
theorem cU.tail{m:Int}{l:Int×Int}{r:List (Int×Int)}(h:cU m (l::r)):cU m r:=⟨fun x hx=>h.rng x (List.mem_cons_of_mem _ hx),(List.pairwise_cons.1 h.nd).2⟩
theorem cU.wayL_nd{m:Int}:∀{L:List (Int×Int)},cU m L→(mO L).Nodup
 | [],_=>List.nodup_nil
 | (a,b)::r,h=>by
  obtain⟨h1,_⟩:=List.pairwise_cons.1 h.nd
  have hr:=h.rng (a,b) (List.mem_cons_self ..)
  have n1:(a,b) ∉ mO r:=fun hm=>by
   rcases Aa.1 hm with hm|hm
   ·exact(h1 _ hm).1 rfl
   ·exact(h1 _ hm).2 rfl
  have n2:(b,a) ∉ mO r:=fun hm=>by
   rcases Aa.1 hm with hm|hm
   ·exact(h1 _ hm).2 rfl
   ·exact(h1 _ hm).1 rfl
  simp only[mO,List.nodup_cons,List.mem_cons,not_or]
  refine⟨⟨fun e=>hr.2.2.2.2 ?_,n1⟩,n2,h.tail.wayL_nd⟩
  cases e;rfl
theorem wO(L:List (Int×Int)):(hJ L).Perm (mO L):=xB ltP _
theorem sN(L:List (Int×Int)):(hJ L).length=2*L.length:=(wO L).length_eq.trans (yP L)
theorem cU.waysOf_nd{m:Int}{L:List (Int×Int)}(h:cU m L):(hJ L).Nodup:=(wO L).nodup_iff.2 h.wayL_nd
theorem UI(id n:Nat)(L:List (Int×Int))(sp:List DV)(cap:Option Nat)(h:aA)(hl:h.lim≤id)(hn:n≤1000000)(hs:L.Nodup)(hL:L.length=n)(g:h.get id=some (.arr 90 2 (L.map cX++sp) cap))(wf:WF h) :
  ∀(j k:Nat) (f:eX),1≤k→k+j=n→f 0=.sl id 2 0 n→f 3=.int .i64 k →
  fin [.t 2] (run D 61 [.block 0,.seq Ov] (.loop Ez) f h)=some (.sl id 2 0 n,h):=by
 have hnn:=cV g
 intro j
 induction j with
 | zero =>
  intro k f h1 hk h0 h3
  have hkn:k=n:=by omega
  subst hkn
  rw[cL Ez.eq_1]
  simp[h0,h3,Ov]
 | succ j ih =>
  intro k f h1 hk h0 h3
  have hkn:k<n:=by omega
  have hx:∀i,(hi:i<n)→(L.map cX++sp)[i]?=some (.agg [.int .i64 (L[i]'(by omega)).1,.int .i64 (L[i]'(by omega)).2]):=fun i hi=>by
   rw[List.getElem?_append_left (by simp;omega),List.getElem?_map,List.getElem?_eq_getElem (by omega)];rfl
  have JM:=hx k hkn
  have hx0:=hx (k-1) (by omega)
  have CU:IntKind.i64.wrap ((k:Int)-1)=((k-1:Nat):Int):=by rw[cO (by omega) (by omega)];omega
  have hw3:IntKind.i64.wrap ((k:Int)+1)=((k+1:Nat):Int):=by rw[cO (by omega) (by omega)];omega
  have JT:∀i:Nat,i<n→bG 2 (.sl id 2 0 n) (.int .i64 (i:Int))=some (.ptr id 2 i 0):=fun i hi=>by
   simp[bG,asI,hi]
  have O9:=JT k hkn
  have hi0:=JT (k-1) (by omega)
  have dA:¬((L[k]'(by omega)).1=(L[k-1]'(by omega)).1∧(L[k]'(by omega)).2=(L[k-1]'(by omega)).2):=fun e=>by
   have:L[k]'(by omega)=L[k-1]'(by omega):=Prod.ext e.1 e.2
   exact List.pairwise_iff_getElem.1 hs (k-1) k (by omega) (by omega) (by omega) this.symm
  have hq:((L[k]'(by omega)).1 == (L[k-1]'(by omega)).1 && (L[k]'(by omega)).2 == (L[k-1]'(by omega)).2)=false:=by
   rw[Bool.and_eq_false_iff]
   by_cases h1:(L[k]'(by omega)).1=(L[k-1]'(by omega)).1
   ·exact .inr (by simpa using fun h2=>dA ⟨h1,h2⟩)
   ·exact .inl (by simpa using h1)
  rw[cL Ez.eq_1]
  simp[h0,h3,g,JM,hx0,hnn,CU,O9,hi0,hkn,hq,E1,hw3]
  exact ih (k+1) _ (by omega) (by omega) (by simp[h0]) (by simp)
theorem TX(id:Nat)(L:List (Int×Int))(sp:List DV)(cap:Option Nat)(h:aA)(hl:h.lim≤id)(hn:L.length≤1000000)(hs:L.Nodup)(g:h.get id=some (.arr 90 2 (L.map cX++sp) cap))(wf:WF h) :
  fc D 133 [.sl id 2 0 L.length] h=some (.sl id 2 0 L.length,h):=by
 rw[SN,dI _ _ _ _ (by simp[Iu])]
 by_cases h2:L.length<2
 ·have h2':(L.length:Int)<2:=by omega
  simp[Iu,h2,h2']
 ·have h2':¬(L.length:Int)<2:=by omega
  simp[Iu,h2,h2']
  exact UI id L.length L sp cap h hl hn hs rfl g wf (L.length-1) 1 _ (by omega) (by omega) (by simp) (by simp)
theorem J6(h:aA):fc D 133 [.nsl] h=some (.nsl,h):=by
 rw[SN,dI _ _ _ _ (by simp[Iu])]
 simp[Iu]
theorem TY(id:Nat)(sp:List DV)(cap:Option Nat)(h:aA)(L:List (Int×Int))(g:h.get id=some (.arr 90 2 (L.map cX++sp) cap))(hl:h.lim≤id)(hb:L.length≤1000000) :
  fc D 130 [.sl id 2 0 L.length,.func 131 []] h=some (.tup [],h.set id (.arr 90 2 ((eS ltP L).map cX++sp) cap)) :=
 (SQ _ h).trans (Jm (un:=unP) (mk:=cX) (lt:=ltP) (fun _=>rfl) g hl hb)
theorem J7(h:aA):fc D 130 [.nsl,.func 131 []] h=some (.tup [],h):=SQ _ h
theorem l42(P:Res→Prop)(t:Bool)(m:Int)(L:List (Int×Int))(hm:∀l∈L,Mf m l=true)(hL:L.length≤100000)(h0:aA)(g0:h0.get 0=some (.arr 79 2 [.agg [.int .i64 m,eL t 2 cX L]] (some 1)))(dC:h0.lim=0) :
  ∀(rest Ny:List (Int×Int)) (i:Nat) (f:eX) (h:aA),L.drop i=rest→Ny.length≤2*i→f 1=.ptr 0 2 0 0→f 7=eL t 2 cX L→f 8=.int .i64 L.length→f 9=.int .i64 i→OwnR 1 h (f 3) 90 2 (Ny.map cX)→Ext 1 h0 h →
  (∀F H,OwnR 1 H (F 3) 90 2 ((Ny++mO rest).map cX)→Ext 1 h0 H→P (run D 30 [] It F H)) →
  P (run D 30 [.block 0,.seq It] (.loop To) f h):=by
 intro rest
 induction rest with
 | nil =>
  intro Ny i f h hd ha h1 h7 h8 h9 ho hx pW
  have hi:=Q5 hd
  have:¬(i<L.length):=by omega
  rw[cL To.eq_1]
  simp[h8,h9,this]
  exact pW _ _ (by simpa[mO]using ho) hx
 | cons l rest ih =>
  intro Ny i f h hd ha h1 h7 h8 h9 ho hx pW
  obtain⟨hi,he,Od⟩:=CC hd
  have hlH:h.lim=0:=hx.lim.trans dC
  have hg0:=(hx.get 0 (by decide)).trans g0
  have hnh:=hx.le
  have n0:¬0=h.n:=by omega
  have hw:IntKind.i64.wrap ((i:Int)+1)=(i:Int)+1:=cO (by omega) (by omega)
  have hf:∀h,resolve true h 199 (eL t 2 cX L)=some (eL t 2 cX L):=fun h=>kL _ _ _ _ true h 199 (by decide)
  obtain⟨u,v⟩:=l
  have sF:pcF D Ow [.agg [.int .i64 m,eL t 2 cX L],.agg [.int .i64 u,.int .i64 v]]=some (.bool true):=by
   have:=TV t m L (u,v)
   rw[hm (u,v) (by rw[←List.take_append_drop i L,hd];simp)]at this
   exact this
  rw[cL To.eq_1]
  rw[show Ny++mO ((u,v)::rest)=(Ny++[(u,v),(v,u)])++mO rest by simp[mO]]at pW
  simp[h1,h7,h8,h9,hi,he,hlH,hg0,n0,cX,UN,sF,hf,SH,SG]
  generalize hA:bN _ _ _ _ _ _=A
  obtain⟨w',h',rfl,BD,Gt,_⟩:=ho.push.push.append hx.push.push.wf (hx.push.push.le) (by simp[hlH]) hA (by simp;omega) (by decide)
  clear hA
  simp[h9,hw]
  generalize hF:upd _ 9 _=F
  refine ih (Ny++[(u,v),(v,u)]) (i+1) F h' Od (by simp;omega) (by rw[←hF];simp[h1]) (by rw[←hF];simp[h7]) (by rw[←hF];simp[h8]) (by rw[←hF];simp) (by rw[←hF];simp;simpa[cX]using BD) (hx.push.push.trans Gt) pW
theorem s42(t:Bool){m:Int}{L:List (Int×Int)}(ok:cU m L)(hL:L.length≤100000):pcF D t42 [.agg [.int .i64 m,eL t 2 cX L]]=some (eL false 2 cX (hJ L)):=by
 have hm:∀l∈L,Mf m l=true:=fun l hl=>decide_eq_true (ok.rng l hl)
 unfold pcF
 rw[dI _ _ _ _ (by simp[t42])]
 simp[t42]
 generalize hF:upd _ 9 _=F
 generalize hH:aA.push _ _=H
 refine l42 (fun r=>pO (fin [.t 2] r)=some (eL false 2 cX (hJ L))) t m L hm hL H (by rw[←hH];simp) (by rw[←hH];simp) L [] 0 F H rfl (Nat.zero_le _) (by rw[←hF];simp) (by rw[←hF];simp) (by rw[←hF];simp) (by rw[←hF];simp) (.nil (by rw[←hF];simp) rfl) (.refl (by rw[←hH];simp) (by rw[←hH];simp)) fun F K o x=>?_
 rw[List.nil_append]at o
 have bZ:=sN L
 have hlw:=yP L
 cases o with
 | nil hv hx =>
  have Gt:L=[]:=List.length_eq_zero_iff.1 (by have:=congrArg List.length hx;rw[List.length_map]at this;simp only[List.length_nil]at this;omega)
  subst Gt
  simp[It,hv,J7,J6,turn]
  rfl
 | arr id sp cap hv hg dC gQ =>
  have h2:=TY id sp cap K (mO L) hg dC (by omega)
  have hgl:=cV hg
  have g2:(K.set id (.arr 90 2 ((hJ L).map cX++sp) cap)).get id=some (.arr 90 2 ((hJ L).map cX++sp) cap):=cT x.wf hg
  have h3:=TX id (hJ L) sp cap _ (by exact dC) (by omega) ok.waysOf_nd g2 x.wf.set
  have e2:(hJ L).length=(mO L).length:=by omega
  rw[List.length_map]at hv
  rw[e2]at h3
  have w:OwnR 1 (K.set id (.arr 90 2 ((hJ L).map cX++sp) cap)) (.sl id 2 0 (mO L).length) 90 2 ((hJ L).map cX):=.arr id sp cap (by rw[List.length_map,e2]) g2 dC gQ
  have hout:=w.out (k:=22) (fun y _=>(nT y).1.mono (by decide)) (fun y _=>(nT y).2) (by decide)
  unfold hJ at h3 hout ⊢
  simp[It,hv,h2,h3,turn,-nU]
  exact hout
end Go.Dm.Tc
/-
QuietBound: the bound of picks;the law.
-/
namespace Go.Dm.Tc
theorem AJ{x y X Y:Int}(hx:0≤x∧x≤X)(hy:0≤y∧y≤Y):0≤x*y∧x*y≤X*Y :=
 ⟨Int.mul_nonneg hx.1 hy.1,Int.mul_le_mul hx.2 hy.2 hy.1 (Int.le_trans hx.1 hx.2)⟩
def gX(n m a s p:Int):Int:=2*a*n+2*a*s*m+p*n
theorem Ve{n m a s p:Int}(hn:0≤n∧n≤1000)(hm:0≤m∧m≤100)(ha:0≤a∧a≤1000)(hs:0≤s∧s≤1000)(hp:0≤p∧p≤1000) :
  (0≤2*a∧2*a≤2000)∧(0≤2*a*n∧2*a*n≤2000000)∧(0≤2*a*s∧2*a*s≤2000000)∧(0≤2*a*s*m∧2*a*s*m≤200000000)∧(0≤p*n∧p*n≤1000000):=by
 have h1:0≤2*a∧2*a≤2000:=by omega
 have h2:=AJ h1 hn
 have h3:=AJ h1 hs
 have h4:=AJ h3 hm
 have h5:=AJ hp hn
 exact⟨h1,h2,h3,h4,h5⟩
theorem s40(t:Bool){m:Int}{L:List (Int×Int)}(ok:cU m L)(hL:L.length≤14)(hm:0≤m∧m≤100){a s p:Int}(ha:0≤a∧a≤1000)(hs:0≤s∧s≤1000)(hp:0≤p∧p≤1000) :
  pcF D t40 [.agg [.int .i64 m,eL t 2 cX L],.int .i64 a,.int .i64 s,.int .i64 p]=some (.int .i64 (gX ((hJ L).length:Nat) m a s p)):=by
 have hW:=s42 t ok (by omega)
 have hl:=sN L
 obtain⟨n,hn⟩:∃ n:Int,((hJ L).length:Int)=n:=⟨_,rfl⟩
 have hf:∀h,resolve true h 199 (eL t 2 cX L)=some (eL t 2 cX L):=fun h=>kL _ _ _ _ true h 199 (by decide)
 have hr:=Ve (n:=n) (by omega) hm ha hs hp
 obtain⟨r1,r2,r3,r4,r5⟩:=hr
 have w1:IntKind.i64.wrap (2*a)=2*a:=cO (by omega) (by omega)
 have w2:IntKind.i64.wrap (2*a*n)=2*a*n:=cO (by omega) (by omega)
 have w3:IntKind.i64.wrap (2*a*s)=2*a*s:=cO (by omega) (by omega)
 have w4:IntKind.i64.wrap (2*a*s*m)=2*a*s*m:=cO (by omega) (by omega)
 have w5:IntKind.i64.wrap (p*n)=p*n:=cO (by omega) (by omega)
 have w6:IntKind.i64.wrap (2*a*n+2*a*s*m)=2*a*n+2*a*s*m:=cO (by omega) (by omega)
 have w7:IntKind.i64.wrap (2*a*n+2*a*s*m+p*n)=2*a*n+2*a*s*m+p*n:=cO (by omega) (by omega)
 unfold pcF
 rw[dI _ _ _ _ (by simp[t40])]
 simp[t40,e42,hW,hf,hn,w1,w2,w3,w4,w5,w6,w7,gX]
theorem s7:pcF D t7 []=some (.bool true):=IJ (n:=5000) (args:=[]) e7 rfl (by kernel_rfl)
set_option maxHeartbeats 4000000 in
theorem s8(k:Ia)(a s p:Int):pcF D t8 [rF k,.int .i64 a,.int .i64 s,.int .i64 p]=some (.bool true):=by
 have hm:=fH k.n 1 7 (by decide)
 have hG:=fun tu tm=>s41 tu tm k.n k.under k.more
 obtain⟨m,sF⟩:∃ m,cD k.n 1 7=m:=⟨_,rfl⟩
 rw[sF]at hm
 simp only[sF]at hG
 have ok:=Yl hm.1 k.under k.more
 have hL:=Rw hm.2 k.under k.more
 generalize wA m k.under k.more=L at *
 have hx:=fH a 0 400 (by decide)
 have hy:=fH s 0 400 (by decide)
 have hz:=fH p 0 400 (by decide)
 have hwx:=s13 a 0 400 (by decide) (by decide) (by decide)
 have hwy:=s13 s 0 400 (by decide) (by decide) (by decide)
 have hwz:=s13 p 0 400 (by decide) (by decide) (by decide)
 generalize cD a 0 400=x at *
 generalize cD s 0 400=y at *
 generalize cD p 0 400=z at *
 have hW:=s42 false ok (by omega)
 have hl:=sN L
 have hB:=fun(a s p:Int) ha hs hp=>s40 false ok hL (m:=m) ⟨by omega,by omega⟩ (a:=a) (s:=s) (p:=p) ha hs hp
 generalize hn:((hJ L).length:Int)=n at *
 have hf:∀h,resolve true h 199 (eL false 2 cX L)=some (eL false 2 cX L):=fun h=>kL _ _ _ _ true h 199 (by decide)
 have hf1:∀h,resolve true h 199 (eL false 1 iT k.under)=some (eL false 1 iT k.under):=fun h=>kL _ _ _ _ true h 199 (by decide)
 have hf2:∀h,resolve true h 199 (eL false 1 iT k.more)=some (eL false 1 iT k.more):=fun h=>kL _ _ _ _ true h 199 (by decide)
 have b1:=hB x y z (by omega) (by omega) (by omega)
 have b2:=hB x 0 0 (by omega) (by omega) (by omega)
 have b3:=hB x y 0 (by omega) (by omega) (by omega)
 have b4:=hB 0 0 z (by omega) (by omega) (by omega)
 have b5:=hB 0 y 0 (by omega) (by omega) (by omega)
 have b6:=hB 1 0 0 (by omega) (by omega) (by omega)
 have b7:=hB 1 1 0 (by omega) (by omega) (by omega)
 have b8:=hB (x+1) y z (by omega) (by omega) (by omega)
 have b9:=hB x (y+1) z (by omega) (by omega) (by omega)
 have b10:=hB x y (z+1) (by omega) (by omega) (by omega)
 have hn0:0≤n∧n≤28:=by omega
 have hR:=s7
 have j2:gX n m x 0 0=2*x*n:=by simp[gX]
 have j3:gX n m x y 0=2*x*n+2*x*y*m:=by simp[gX]
 have j4:gX n m 0 0 z=z*n:=by simp[gX]
 have j5:gX n m 0 y 0=0:=by simp[gX]
 have j6:gX n m 1 0 0=2*n:=by simp[gX]
 have j7:gX n m 1 1 0=2*n+2*m:=by simp[gX]
 have j1:gX n m x y z=2*x*n+(2*x*n+2*x*y*m)-2*x*n+z*n:=by simp only[gX];omega
 have j10:gX n m x y (z+1)=gX n m x y z+n:=by simp only[gX,Int.add_mul,Int.one_mul];omega
 have j8:gX n m x y z≤gX n m (x+1) y z:=by
  have h1:=Int.mul_le_mul_of_nonneg_right (show 2*x≤2*(x+1) by omega) hn0.1
  have h2:=Int.mul_le_mul_of_nonneg_right (show 2*x≤2*(x+1) by omega) hy.1
  have h3:=Int.mul_le_mul_of_nonneg_right h2 (show 0≤m by omega)
  simp only[gX];omega
 have j9:gX n m x y z≤gX n m x (y+1) z:=by
  have h2:=Int.mul_le_mul_of_nonneg_left (show y≤y+1 by omega) (show 0≤2*x by omega)
  have h3:=Int.mul_le_mul_of_nonneg_right h2 (show 0≤m by omega)
  simp only[gX];omega
 have c1:=Ve (n:=n) (m:=m) (a:=x) (s:=y) (p:=z) (by omega) (by omega) (by omega) (by omega) (by omega)
 obtain⟨r1,r2,r3,r4,r5⟩:=c1
 have w1:IntKind.i64.wrap (x+1)=x+1:=cO (by omega) (by omega)
 have w2:IntKind.i64.wrap (y+1)=y+1:=cO (by omega) (by omega)
 have w3:IntKind.i64.wrap (z+1)=z+1:=cO (by omega) (by omega)
 have w4:IntKind.i64.wrap (2*n)=2*n:=cO (by omega) (by omega)
 have w5:IntKind.i64.wrap (2*m)=2*m:=cO (by omega) (by omega)
 have w6:IntKind.i64.wrap (2*n+2*m)=2*n+2*m:=cO (by omega) (by omega)
 have w7:IntKind.i64.wrap (2*x*n+(2*x*n+2*x*y*m))=2*x*n+(2*x*n+2*x*y*m):=cO (by omega) (by omega)
 have w8:IntKind.i64.wrap (2*x*n+(2*x*n+2*x*y*m)-2*x*n)=2*x*n+(2*x*n+2*x*y*m)-2*x*n:=cO (by omega) (by omega)
 have w9:IntKind.i64.wrap (2*x*n+(2*x*n+2*x*y*m)-2*x*n+z*n)=2*x*n+(2*x*n+2*x*y*m)-2*x*n+z*n:=cO (by omega) (by omega)
 have w10:IntKind.i64.wrap (gX n m x y z+n)=gX n m x y z+n:=cO (by simp only[gX];omega) (by simp only[gX];omega)
 rw[j2]at b2;rw[j3]at b3;rw[j4]at b4;rw[j5]at b5;rw[j6]at b6;rw[j7]at b7;rw[j10]at b10
 generalize gX n m (x+1) y z=q8 at *
 generalize gX n m x (y+1) z=q9 at *
 unfold pcF
 rw[dI _ _ _ _ (by simp[t8])]
 rw[←j1]at w9
 generalize hB1:gX n m x y z=q1 at *
 simp[t8,rF,e41,hG,hf,hf1,hf2,turn,e13,hwx,hwy,hwz,e42,hW,hn,e40,b1,b2,b3,b4,b5,b6,b7,b8,b9,b10,w1,w2,w3,w4,w5,w6,w7,w8,w9,w10,←j1,j8,j9,e7,hR]
end Go.Dm.Tc
