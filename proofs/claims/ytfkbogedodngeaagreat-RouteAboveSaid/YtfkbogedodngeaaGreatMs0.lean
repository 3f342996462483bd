/- A part of the proof. -/
import Derived.Test.YtfkbogedodngeaaGreatTcE
import Derived.Test.YtfkbogedodngeaaGreatMm5
set_option linter.all false
namespace Go.Dm.Tc
def Gk:Option Nat→Int
 | some i=>i
 | none=>-1
theorem TG(t:Bool)(xs:List aX)(g:Nat)(cap:List DV)(p:aX→Bool)(hg:∀x∈xs,∀h,fc D g ([aD x]++cap) h=some (.bool (p x),h))(hl:xs.length≤1000000) :
  ∀(rest:List aX) (i:Nat) (f:dK) (h:aA),xs.drop i=rest→f 0=eL t 7 aD xs→f 1=.func g cap→f 7=.int .i64 xs.length→f 8=.int .i64 i →
  gV (fin [.t 4] (run D 19 [.block 0,.seq Wf] (.loop Ly) f h))=some (.int .i64 (Gk ((rest.findIdx? p).map (·+i)))):=by
 intro rest
 induction rest with
 | nil =>
  intro i f h hd h0 h1 h7 h8
  have hi:=fY hd
  have:¬(i<xs.length):=by omega
  rw[aO Ly.eq_1]
  simp[Wf,h7,h8,this,Gk]
 | cons e rest ih =>
  intro i f h hd h0 h1 h7 h8
  obtain⟨hi,he,nJ⟩:=iI hd
  have uE:=hg e (by rw[←he];exact List.getElem_mem hi)
  simp only[aD,List.cons_append,List.nil_append]at uE
  rw[aO Ly.eq_1]
  cases hp:p e with
  | true=>simp[h0,h1,h7,h8,hi,he,aD,uE,hp,Gk,List.findIdx?_cons]
  | false =>
   simp[h0,h1,h7,h8,hi,he,aD,uE,hp]
   rw[bC (by omega) (by omega)]
   refine(ih (i+1) _ h nJ ?_ ?_ ?_ ?_).trans ?_<;>simp[h0,h1,h7,List.findIdx?_cons,hp]
   congr 2
   funext q
   simp
   omega
theorem SG(t:Bool)(xs:List aX)(g:Nat)(cap:List DV)(p:aX→Bool)(hg:∀x∈xs,∀h,fc D g ([aD x]++cap) h=some (.bool (p x),h))(hl:xs.length≤1000000) :
  pcF D L6 [eL t 7 aD xs,.func g cap]=some (.int .i64 (Gk (xs.findIdx? p))):=by
 unfold pcF
 rw[aM _ _ _ _ (by simp[L6])]
 simp[L6]
 refine(TG t xs g cap p hg hl xs 0 _ _ rfl ?_ ?_ ?_ ?_).trans ?_<;>simp
theorem EJ{α:Type}(p:α→Bool)(xs:List α):decide (0≤Gk (xs.findIdx? p))=xs.any p:=by
 cases h:xs.findIdx? p with
 | none =>
  rw[List.findIdx?_eq_none_iff]at h
  simp only[Gk]
  have:xs.any p=false:=by rw[List.any_eq_false];exact fun x hx=>by simp[h x hx]
  rw[this];rfl
 | some i =>
  have:=List.findIdx?_eq_some_iff_getElem.1 h
  obtain⟨hi,hp,_⟩:=this
  have:xs.any p=true:=List.any_eq_true.2 ⟨_,List.getElem_mem hi,hp⟩
  rw[this]
  simp[Gk]
theorem SI(t:Bool)(xs:List aX)(g:Nat)(cap:List DV)(p:aX→Bool)(hc:∀x∈cap,iQ 20 x)(hg:∀x∈xs,∀h,fc D g ([aD x]++cap) h=some (.bool (p x),h))(hl:xs.length≤1000000) :
  pcF D L8 [eL t 7 aD xs,.func g cap]=some (.bool (xs.any p)):=by
 unfold pcF
 rw[aM _ _ _ _ (by simp[L8])]
 have hf:∀tg h,resolve tg h 200 (.func g cap)=some (.func g cap):=fun tg h=>U0 (k:=20) hc tg h 200 (by decide)
 simp[L8,TS,hf,-Rt,SG t xs g cap p hg hl]
 have:=EJ p xs
 simpa using this
end Go.Dm.Tc
/-
What functions of the library compute,part 2: comparisons by a function,rows that rise,searches by halves.
-/
namespace Go.Dm.Tc
def kY{α:Type}(p:α→α→Bool):List α→Bool
 | a::b::r=>p a b && kY p (b::r)
 | _=>true
end Go.Dm.Tc
/-
What functions of the library compute,part 3: the search by halves.
-/
namespace Go.Dm.Tc
def bG{α:Type}(cm:α→Int)(xs:List α):Nat:=xs.findIdx fun x=>!decide (cm x<0)
def eJ{α:Type}(cm:α→Int)(xs:List α):Bool:=match xs[bG cm xs]? with|some x=>decide (cm x=0)|none=>false
theorem hG{α:Type}(cm:α→Int)(xs:List α):bG cm xs≤xs.length:=List.findIdx_le_length
theorem mT{α:Type}{cm:α→Int}{xs:List α}{k:Nat}(hk:k≤xs.length)(h1:∀q (hq:q<k),cm (xs[q]'(by omega))<0)(h2:∀(hq:k<xs.length),¬cm xs[k]<0):bG cm xs=k:=by
 unfold bG
 rcases Nat.lt_or_eq_of_le hk with aY|rfl
 ·rw[List.findIdx_eq aY]
  refine⟨by simpa using h2 aY,fun j hj=>by simpa using h1 j hj⟩
 ·rw[List.findIdx_eq_length]
  intro x hx
  obtain⟨i,hi,rfl⟩:=List.mem_iff_getElem.1 hx
  simpa using h1 i hi
theorem l75(t:Bool)(xs:List ID)(c s:Int)(g:Nat)(cap:List DV)(cm:ID→Int)(hg:∀x∈xs,∀h,fc D g ([eID x,.agg [.int .i64 c,.int .i64 s]]++cap) h=some (.int .i64 (cm x),h))(hl:xs.length≤1000000)
  (hm:∀i j (hi:i<xs.length) (hj:j<xs.length),i≤j→cm xs[j]<0→cm xs[i]<0) (h:aA) (cp:Option Nat) (Lc:h.get 0=some (.arr 24 2 [.agg [.int .i64 c,.int .i64 s]] cp)) :
  ∀(n i j:Nat) (f:dK),j-i=n→i≤j→j≤xs.length→f 0=eL t 2 eID xs→f 2=.func g cap→f 4=.ptr 0 2 0 0→f 8=.int .i64 xs.length→f 9=.int .i64 i→f 10=.int .i64 j →
  (∀q (hq:q<i),(qS:q<xs.length)→cm xs[q]<0)→(∀q (hq:q<xs.length),j≤q→¬cm xs[q]<0) →
  gV (fin [.t 6,.t 7] (run D 49 [.block 0,.seq C6] (.loop AW) f h))=some (.tup [.int .i64 (bG cm xs),.bool (eJ cm xs)]):=by
 intro n
 induction n using Nat.strongRecOn with
 | ind n ih =>
  intro i j f hn T4 hj h0 h2 h4 h8 h9 lJ pS jP
  rw[aO AW.eq_1]
  by_cases aY:i<j
  ·have hk:(i+j) / 2<xs.length:=by omega
   have Dx:xs[(i+j) / 2]?=some xs[(i+j) / 2]:=List.getElem?_eq_getElem hk
   have uE:=hg xs[(i+j) / 2] (List.getElem_mem hk)
   simp only[eID,List.cons_append,List.nil_append]at uE
   have w1:IntKind.i64.wrap ((i:Int)+j)=((i:Int)+j):=bC (by omega) (by omega)
   have w2:IntKind.u64.wrap ((i:Int)+j)=((i:Int)+j):=wB (by omega) (by omega)
   have w3:IntKind.i64.wrap (((i+j) / 2:Nat):Int)=((i+j) / 2:Nat):=bC (by omega) (by omega)
   have w4:IntKind.i64.wrap ((((i+j) / 2:Nat):Int)+1)=((((i+j) / 2:Nat):Int)+1):=bC (by omega) (by omega)
   by_cases hc:cm xs[(i+j) / 2]<0
   ·simp[h0,h2,h4,h8,h9,lJ,aY,hk,Dx,Lc,uE,eID,w1,w2,w3,w4,hc,-Int.natCast_ediv]
    refine ih (j-((i+j) / 2+1)) (by omega) ((i+j) / 2+1) j _ rfl (by omega) hj ?_ ?_ ?_ ?_ ?_ ?_ ?_ jP<;>try simp[h0,h2,h4,h8,lJ,eID]
    intro q hq qS
    exact hm q ((i+j) / 2) qS hk (by omega) hc
   ·simp[h0,h2,h4,h8,h9,lJ,aY,hk,Dx,Lc,uE,eID,w1,w2,w3,w4,hc,-Int.natCast_ediv]
    refine ih ((i+j) / 2-i) (by omega) i ((i+j) / 2) _ rfl (by omega) (by omega) ?_ ?_ ?_ ?_ ?_ ?_ pS ?_<;>simp[h0,h2,h4,h8,h9,eID]
    intro q hq qS
    exact Int.not_lt.1 fun hx=>hc (hm ((i+j) / 2) q hk hq qS hx)
  ·have Of:i=j:=by omega
   subst Of
   have dM:bG cm xs=i:=mT hj (fun q hq=>pS q hq (by omega)) (fun hq=>jP i hq (Nat.le_refl i))
   by_cases hi:i<xs.length
   ·have uE:=hg xs[i] (List.getElem_mem hi)
    simp only[eID,List.cons_append,List.nil_append]at uE
    have Dx:xs[i]?=some xs[i]:=List.getElem?_eq_getElem hi
    simp[C6,h0,h2,h4,h8,h9,lJ,hi,Dx,Lc,uE,eID,dM,eJ,aL]
    rfl
   ·simp[C6,h0,h2,h4,h8,h9,lJ,hi,dM,eJ,aL]
theorem s75(t:Bool)(xs:List ID)(c s:Int)(g:Nat)(cap:List DV)(cm:ID→Int)(hg:∀x∈xs,∀h,fc D g ([eID x,.agg [.int .i64 c,.int .i64 s]]++cap) h=some (.int .i64 (cm x),h))(hl:xs.length≤1000000)
  (hm:∀i j (hi:i<xs.length) (hj:j<xs.length),i≤j→cm xs[j]<0→cm xs[i]<0) :
  pcF D t75 [eL t 2 eID xs,.agg [.int .i64 c,.int .i64 s],.func g cap]=some (.tup [.int .i64 (bG cm xs),.bool (eJ cm xs)]):=by
 unfold pcF
 rw[aM _ _ _ _ (by simp[t75])]
 simp[t75]
 refine l75 t xs c s g cap cm hg hl hm _ (some 1) (by simp) xs.length 0 xs.length _ (by omega) (by omega) (by omega) ?_ ?_ ?_ ?_ ?_ ?_ ?_ ?_<;>simp
 intro q hq qS
 omega
theorem l77(t:Bool)(xs:List bZ)(c s:Int)(g:Nat)(cap:List DV)(cm:bZ→Int)(hg:∀x∈xs,∀h,fc D g ([aH x,.agg [.int .i64 c,.int .i64 s]]++cap) h=some (.int .i64 (cm x),h))(hl:xs.length≤1000000)
  (hm:∀i j (hi:i<xs.length) (hj:j<xs.length),i≤j→cm xs[j]<0→cm xs[i]<0) (h:aA) (cp:Option Nat) (Lc:h.get 0=some (.arr 24 2 [.agg [.int .i64 c,.int .i64 s]] cp)) :
  ∀(n i j:Nat) (f:dK),j-i=n→i≤j→j≤xs.length→f 0=eL t 4 aH xs→f 2=.func g cap→f 4=.ptr 0 2 0 0→f 8=.int .i64 xs.length→f 9=.int .i64 i→f 10=.int .i64 j →
  (∀q (hq:q<i),(qS:q<xs.length)→cm xs[q]<0)→(∀q (hq:q<xs.length),j≤q→¬cm xs[q]<0) →
  gV (fin [.t 6,.t 7] (run D 49 [.block 0,.seq C1] (.loop AV) f h))=some (.tup [.int .i64 (bG cm xs),.bool (eJ cm xs)]):=by
 intro n
 induction n using Nat.strongRecOn with
 | ind n ih =>
  intro i j f hn T4 hj h0 h2 h4 h8 h9 lJ pS jP
  rw[aO AV.eq_1]
  by_cases aY:i<j
  ·have hk:(i+j) / 2<xs.length:=by omega
   have Dx:xs[(i+j) / 2]?=some xs[(i+j) / 2]:=List.getElem?_eq_getElem hk
   have uE:=hg xs[(i+j) / 2] (List.getElem_mem hk)
   simp only[aH,List.cons_append,List.nil_append]at uE
   have w1:IntKind.i64.wrap ((i:Int)+j)=((i:Int)+j):=bC (by omega) (by omega)
   have w2:IntKind.u64.wrap ((i:Int)+j)=((i:Int)+j):=wB (by omega) (by omega)
   have w3:IntKind.i64.wrap (((i+j) / 2:Nat):Int)=((i+j) / 2:Nat):=bC (by omega) (by omega)
   have w4:IntKind.i64.wrap ((((i+j) / 2:Nat):Int)+1)=((((i+j) / 2:Nat):Int)+1):=bC (by omega) (by omega)
   by_cases hc:cm xs[(i+j) / 2]<0
   ·simp[h0,h2,h4,h8,h9,lJ,aY,hk,Dx,Lc,uE,aH,w1,w2,w3,w4,hc,-Int.natCast_ediv]
    refine ih (j-((i+j) / 2+1)) (by omega) ((i+j) / 2+1) j _ rfl (by omega) hj ?_ ?_ ?_ ?_ ?_ ?_ ?_ jP<;>try simp[h0,h2,h4,h8,lJ,aH]
    intro q hq qS
    exact hm q ((i+j) / 2) qS hk (by omega) hc
   ·simp[h0,h2,h4,h8,h9,lJ,aY,hk,Dx,Lc,uE,aH,w1,w2,w3,w4,hc,-Int.natCast_ediv]
    refine ih ((i+j) / 2-i) (by omega) i ((i+j) / 2) _ rfl (by omega) (by omega) ?_ ?_ ?_ ?_ ?_ ?_ pS ?_<;>simp[h0,h2,h4,h8,h9,aH]
    intro q hq qS
    exact Int.not_lt.1 fun hx=>hc (hm ((i+j) / 2) q hk hq qS hx)
  ·have Of:i=j:=by omega
   subst Of
   have dM:bG cm xs=i:=mT hj (fun q hq=>pS q hq (by omega)) (fun hq=>jP i hq (Nat.le_refl i))
   by_cases hi:i<xs.length
   ·have uE:=hg xs[i] (List.getElem_mem hi)
    simp only[aH,List.cons_append,List.nil_append]at uE
    have Dx:xs[i]?=some xs[i]:=List.getElem?_eq_getElem hi
    simp[C1,h0,h2,h4,h8,h9,lJ,hi,Dx,Lc,uE,aH,dM,eJ,aL]
    rfl
   ·simp[C1,h0,h2,h4,h8,h9,lJ,hi,dM,eJ,aL]
theorem s77(t:Bool)(xs:List bZ)(c s:Int)(g:Nat)(cap:List DV)(cm:bZ→Int)(hg:∀x∈xs,∀h,fc D g ([aH x,.agg [.int .i64 c,.int .i64 s]]++cap) h=some (.int .i64 (cm x),h))(hl:xs.length≤1000000)
  (hm:∀i j (hi:i<xs.length) (hj:j<xs.length),i≤j→cm xs[j]<0→cm xs[i]<0) :
  pcF D t77 [eL t 4 aH xs,.agg [.int .i64 c,.int .i64 s],.func g cap]=some (.tup [.int .i64 (bG cm xs),.bool (eJ cm xs)]):=by
 unfold pcF
 rw[aM _ _ _ _ (by simp[t77])]
 simp[t77]
 refine l77 t xs c s g cap cm hg hl hm _ (some 1) (by simp) xs.length 0 xs.length _ (by omega) (by omega) (by omega) ?_ ?_ ?_ ?_ ?_ ?_ ?_ ?_<;>simp
 intro q hq qS
 omega
theorem TH(t:Bool)(xs:List aX)(c s:Int)(g:Nat)(cap:List DV)(cm:aX→Int)(hg:∀x∈xs,∀h,fc D g ([aD x,.agg [.int .i64 c,.int .i64 s]]++cap) h=some (.int .i64 (cm x),h))(hl:xs.length≤1000000)
  (hm:∀i j (hi:i<xs.length) (hj:j<xs.length),i≤j→cm xs[j]<0→cm xs[i]<0) (h:aA) (cp:Option Nat) (Lc:h.get 0=some (.arr 24 2 [.agg [.int .i64 c,.int .i64 s]] cp)) :
  ∀(n i j:Nat) (f:dK),j-i=n→i≤j→j≤xs.length→f 0=eL t 7 aD xs→f 2=.func g cap→f 4=.ptr 0 2 0 0→f 8=.int .i64 xs.length→f 9=.int .i64 i→f 10=.int .i64 j →
  (∀q (hq:q<i),(qS:q<xs.length)→cm xs[q]<0)→(∀q (hq:q<xs.length),j≤q→¬cm xs[q]<0) →
  gV (fin [.t 6,.t 7] (run D 49 [.block 0,.seq Lz] (.loop Wg) f h))=some (.tup [.int .i64 (bG cm xs),.bool (eJ cm xs)]):=by
 intro n
 induction n using Nat.strongRecOn with
 | ind n ih =>
  intro i j f hn T4 hj h0 h2 h4 h8 h9 lJ pS jP
  rw[aO Wg.eq_1]
  by_cases aY:i<j
  ·have hk:(i+j) / 2<xs.length:=by omega
   have Dx:xs[(i+j) / 2]?=some xs[(i+j) / 2]:=List.getElem?_eq_getElem hk
   have uE:=hg xs[(i+j) / 2] (List.getElem_mem hk)
   simp only[aD,List.cons_append,List.nil_append]at uE
   have w1:IntKind.i64.wrap ((i:Int)+j)=((i:Int)+j):=bC (by omega) (by omega)
   have w2:IntKind.u64.wrap ((i:Int)+j)=((i:Int)+j):=wB (by omega) (by omega)
   have w3:IntKind.i64.wrap (((i+j) / 2:Nat):Int)=((i+j) / 2:Nat):=bC (by omega) (by omega)
   have w4:IntKind.i64.wrap ((((i+j) / 2:Nat):Int)+1)=((((i+j) / 2:Nat):Int)+1):=bC (by omega) (by omega)
   by_cases hc:cm xs[(i+j) / 2]<0
   ·simp[h0,h2,h4,h8,h9,lJ,aY,hk,Dx,Lc,uE,aD,w1,w2,w3,w4,hc,-Int.natCast_ediv]
    refine ih (j-((i+j) / 2+1)) (by omega) ((i+j) / 2+1) j _ rfl (by omega) hj ?_ ?_ ?_ ?_ ?_ ?_ ?_ jP<;>try simp[h0,h2,h4,h8,lJ,aD]
    intro q hq qS
    exact hm q ((i+j) / 2) qS hk (by omega) hc
   ·simp[h0,h2,h4,h8,h9,lJ,aY,hk,Dx,Lc,uE,aD,w1,w2,w3,w4,hc,-Int.natCast_ediv]
    refine ih ((i+j) / 2-i) (by omega) i ((i+j) / 2) _ rfl (by omega) (by omega) ?_ ?_ ?_ ?_ ?_ ?_ pS ?_<;>simp[h0,h2,h4,h8,h9,aD]
    intro q hq qS
    exact Int.not_lt.1 fun hx=>hc (hm ((i+j) / 2) q hk hq qS hx)
  ·have Of:i=j:=by omega
   subst Of
   have dM:bG cm xs=i:=mT hj (fun q hq=>pS q hq (by omega)) (fun hq=>jP i hq (Nat.le_refl i))
   by_cases hi:i<xs.length
   ·have uE:=hg xs[i] (List.getElem_mem hi)
    simp only[aD,List.cons_append,List.nil_append]at uE
    have Dx:xs[i]?=some xs[i]:=List.getElem?_eq_getElem hi
    simp[Lz,h0,h2,h4,h8,h9,lJ,hi,Dx,Lc,uE,aD,dM,eJ,aL]
    rfl
   ·simp[Lz,h0,h2,h4,h8,h9,lJ,hi,dM,eJ,aL]
theorem SK(t:Bool)(xs:List aX)(c s:Int)(g:Nat)(cap:List DV)(cm:aX→Int)(hg:∀x∈xs,∀h,fc D g ([aD x,.agg [.int .i64 c,.int .i64 s]]++cap) h=some (.int .i64 (cm x),h))(hl:xs.length≤1000000)
  (hm:∀i j (hi:i<xs.length) (hj:j<xs.length),i≤j→cm xs[j]<0→cm xs[i]<0) :
  pcF D L9 [eL t 7 aD xs,.agg [.int .i64 c,.int .i64 s],.func g cap]=some (.tup [.int .i64 (bG cm xs),.bool (eJ cm xs)]):=by
 unfold pcF
 rw[aM _ _ _ _ (by simp[L9])]
 simp[L9]
 refine TH t xs c s g cap cm hg hl hm _ (some 1) (by simp) xs.length 0 xs.length _ (by omega) (by omega) (by omega) ?_ ?_ ?_ ?_ ?_ ?_ ?_ ?_<;>simp
 intro q hq qS
 omega
theorem l86(t:Bool)(xs:List gT)(c s:Int)(g:Nat)(cap:List DV)(cm:gT→Int)(hg:∀x∈xs,∀h,fc D g ([bL x,.agg [.int .i64 c,.int .i64 s]]++cap) h=some (.int .i64 (cm x),h))(hl:xs.length≤1000000)
  (hm:∀i j (hi:i<xs.length) (hj:j<xs.length),i≤j→cm xs[j]<0→cm xs[i]<0) (h:aA) (cp:Option Nat) (Lc:h.get 0=some (.arr 24 2 [.agg [.int .i64 c,.int .i64 s]] cp)) :
  ∀(n i j:Nat) (f:dK),j-i=n→i≤j→j≤xs.length→f 0=eL t 3 bL xs→f 2=.func g cap→f 4=.ptr 0 2 0 0→f 8=.int .i64 xs.length→f 9=.int .i64 i→f 10=.int .i64 j →
  (∀q (hq:q<i),(qS:q<xs.length)→cm xs[q]<0)→(∀q (hq:q<xs.length),j≤q→¬cm xs[q]<0) →
  gV (fin [.t 6,.t 7] (run D 49 [.block 0,.seq C0] (.loop AU) f h))=some (.tup [.int .i64 (bG cm xs),.bool (eJ cm xs)]):=by
 intro n
 induction n using Nat.strongRecOn with
 | ind n ih =>
  intro i j f hn T4 hj h0 h2 h4 h8 h9 lJ pS jP
  rw[aO AU.eq_1]
  by_cases aY:i<j
  ·have hk:(i+j) / 2<xs.length:=by omega
   have Dx:xs[(i+j) / 2]?=some xs[(i+j) / 2]:=List.getElem?_eq_getElem hk
   have uE:=hg xs[(i+j) / 2] (List.getElem_mem hk)
   simp only[bL,List.cons_append,List.nil_append]at uE
   have w1:IntKind.i64.wrap ((i:Int)+j)=((i:Int)+j):=bC (by omega) (by omega)
   have w2:IntKind.u64.wrap ((i:Int)+j)=((i:Int)+j):=wB (by omega) (by omega)
   have w3:IntKind.i64.wrap (((i+j) / 2:Nat):Int)=((i+j) / 2:Nat):=bC (by omega) (by omega)
   have w4:IntKind.i64.wrap ((((i+j) / 2:Nat):Int)+1)=((((i+j) / 2:Nat):Int)+1):=bC (by omega) (by omega)
   by_cases hc:cm xs[(i+j) / 2]<0
   ·simp[h0,h2,h4,h8,h9,lJ,aY,hk,Dx,Lc,uE,bL,w1,w2,w3,w4,hc,-Int.natCast_ediv]
    refine ih (j-((i+j) / 2+1)) (by omega) ((i+j) / 2+1) j _ rfl (by omega) hj ?_ ?_ ?_ ?_ ?_ ?_ ?_ jP<;>try simp[h0,h2,h4,h8,lJ,bL]
    intro q hq qS
    exact hm q ((i+j) / 2) qS hk (by omega) hc
   ·simp[h0,h2,h4,h8,h9,lJ,aY,hk,Dx,Lc,uE,bL,w1,w2,w3,w4,hc,-Int.natCast_ediv]
    refine ih ((i+j) / 2-i) (by omega) i ((i+j) / 2) _ rfl (by omega) (by omega) ?_ ?_ ?_ ?_ ?_ ?_ pS ?_<;>simp[h0,h2,h4,h8,h9,bL]
    intro q hq qS
    exact Int.not_lt.1 fun hx=>hc (hm ((i+j) / 2) q hk hq qS hx)
  ·have Of:i=j:=by omega
   subst Of
   have dM:bG cm xs=i:=mT hj (fun q hq=>pS q hq (by omega)) (fun hq=>jP i hq (Nat.le_refl i))
   by_cases hi:i<xs.length
   ·have uE:=hg xs[i] (List.getElem_mem hi)
    simp only[bL,List.cons_append,List.nil_append]at uE
    have Dx:xs[i]?=some xs[i]:=List.getElem?_eq_getElem hi
    simp[C0,h0,h2,h4,h8,h9,lJ,hi,Dx,Lc,uE,bL,dM,eJ,aL]
    rfl
   ·simp[C0,h0,h2,h4,h8,h9,lJ,hi,dM,eJ,aL]
theorem s86(t:Bool)(xs:List gT)(c s:Int)(g:Nat)(cap:List DV)(cm:gT→Int)(hg:∀x∈xs,∀h,fc D g ([bL x,.agg [.int .i64 c,.int .i64 s]]++cap) h=some (.int .i64 (cm x),h))(hl:xs.length≤1000000)
  (hm:∀i j (hi:i<xs.length) (hj:j<xs.length),i≤j→cm xs[j]<0→cm xs[i]<0) :
  pcF D t86 [eL t 3 bL xs,.agg [.int .i64 c,.int .i64 s],.func g cap]=some (.tup [.int .i64 (bG cm xs),.bool (eJ cm xs)]):=by
 unfold pcF
 rw[aM _ _ _ _ (by simp[t86])]
 simp[t86]
 refine l86 t xs c s g cap cm hg hl hm _ (some 1) (by simp) xs.length 0 xs.length _ (by omega) (by omega) (by omega) ?_ ?_ ?_ ?_ ?_ ?_ ?_ ?_<;>simp
 intro q hq qS
 omega
end Go.Dm.Tc
/-
What functions of the library compute,part 4: an element put into a row of the call's own.
-/
namespace Go.Dm.Tc
theorem a34(H:aA)(n0:Nat)(xs:List bZ)(i:Nat)(x:bZ)(fD vety:Nat)(vcap:Option Nat)(g0:H.get n0=some (.arr 37 4 (xs.map aH++[.unk]) none))(gv:H.get fD=some (.arr vety 4 [aH x] vcap))(hi:i≤xs.length)(hl:xs.length≤1000000)(wf:WF H)(aS:H.lim≤n0)(cY:fD≠n0) :
  ∃ H',fL (ev D) t34 [.sl n0 4 0 xs.length,.int .i64 i,.sl fD 4 0 1] H=some (.sl n0 4 0 (xs.length+1),H')∧H'.get n0=some (.arr 37 4 ((xs.take i++x::xs.drop i).map aH) none):=by
 have aY:=aI g0
 have w1:IntKind.i64.wrap ((xs.length:Int)+1)=(xs.length:Int)+1:=bC (by omega) (by omega)
 rw[aM _ _ _ _ (by simp[t34])]
 by_cases sT:i=xs.length
 ·subst sT
  simp[t34,g0,gv]
  rw[gS g0 (by simp) aS (by simp;omega) (by decide) (by simp)]
  simp[bW wf aY,cN]
 ·have tP:¬((i:Int)=xs.length):=by omega
  have w2:IntKind.i64.wrap ((i:Int)+1)=(i:Int)+1:=bC (by omega) (by omega)
  have nG:i+1≤xs.length+1:=by omega
  have T5:i+1+(xs.length-i)≤xs.length+1:=by omega
  have GP:i+(xs.length+1-i)≤xs.length+1:=by omega
  have KO:i≤xs.length+1:=by omega
  have hx:i<(xs.map aH).length:=by simp;omega
  have e1:=sF (xs.map aH) .unk i hx
  have e2:=zP (xs.map aH) (aH x) i hx
  have KN:xs.length+1≤min (i+1) xs.length+(xs.length-i):=by omega
  have KM:i+1≤min (i+1) xs.length+(xs.length-i):=by omega
  simp only[List.length_map]at e1 e2
  simp[t34,g0,gv,tP,hi,w1,w2,e1,e2,KN,KM,nG,T5,GP,KO,e79,cO,cY,aS,aY,bW wf,bW wf.set]
  have e3:List.take (xs.length+1-i) [aH x]=[aH x]:=List.take_of_length_le (by simp;omega)
  rw[e3,e2]
theorem b34(H:aA)(n0:Nat)(xs:List bZ)(i:Nat)(x:bZ)(fD vety:Nat)(vcap:Option Nat)(g0:H.get n0=some (.arr 37 4 (xs.map aH) (some xs.length)))(gv:H.get fD=some (.arr vety 4 [aH x] vcap))(hi:i≤xs.length)(hl:xs.length≤1000000)(wf:WF H)(aS:H.lim≤n0)(cY:fD≠n0) :
  ∃ H',fL (ev D) t34 [.sl n0 4 0 xs.length,.int .i64 i,.sl fD 4 0 1] H=some (.sl H.n 4 0 (xs.length+1),H')∧H'.get H.n=some (.arr 37 4 ((xs.take i++x::xs.drop i).map aH) none):=by
 have aY:=aI g0
 have Gl:=aI gv
 have w1:IntKind.i64.wrap ((xs.length:Int)+1)=(xs.length:Int)+1:=bC (by omega) (by omega)
 rw[aM _ _ _ _ (by simp[t34])]
 by_cases sT:i=xs.length
 ·subst sT
  simp[t34,g0,gv]
  rw[eN g0 (by simp) (by simp) (by simp;omega) (by decide) (by simp)]
  simp
  rw[List.take_of_length_le (by simp)]
 ·have tP:¬((i:Int)=xs.length):=by omega
  have w2:IntKind.i64.wrap ((i:Int)+1)=(i:Int)+1:=bC (by omega) (by omega)
  have w3:IntKind.i64.wrap ((xs.length:Int)+1-i)=((xs.length+1-i:Nat):Int):=by rw[bC (by omega) (by omega)];omega
  have hx:i<(xs.map aH).length:=by simp;omega
  have hq:(xs.length:Int)<(xs.length:Int)+1:=by omega
  have Bk:H.lim≤H.n:=by omega
  have hz:((xs.length+1-i:Nat):Int)≤140737488355328:=by omega
  have e1:=fun z=>vC (xs.map aH) z (aH x) i hx
  have e2:=fun z=>vB (xs.map aH) z (aH x) i hx
  have e3:i+(xs.length+1-i)=xs.length+1:=by omega
  have e4:i+(xs.length-i+1)=xs.length+1:=by omega
  have e5:i+1≤xs.length+1:=by omega
  have e6:i+1+(xs.length-i)≤xs.length+1:=by omega
  have e7:i≤xs.length+1:=by omega
  have e8:List.take (xs.length+1-i) [aH x]=[aH x]:=List.take_of_length_le (by simp;omega)
  have e9:List.take (xs.length-i) (List.drop i (List.map aH xs))=List.drop i (List.map aH xs):=List.take_of_length_le (by simp)
  simp only[List.length_map]at e1 e2
  simp[t34,g0,gv,tP,hi,w1,w2,w3,hq,hz]
  rw[eN g0 (by simp;omega) (by simp;omega) (by simp;omega) (by decide) (by simp;omega)]
  simp[g0,gv,w2,hi,aY,Gl,aS,Bk,e3,e4,e5,e6,e7,e1,e2,e8,e9,Nat.ne_of_lt aY,Nat.ne_of_lt Gl,Nat.min_eq_left hi]
theorem s34(lo:Nat)(h:aA)(v:DV)(xs:List bZ)(i:Nat)(x:bZ)(fD vety c:Nat)(ho:Own lo h v 37 4 (xs.map aH))(gv:h.get fD=some (.arr vety 4 [aH x] (some c)))(hi:i≤xs.length)(hl:xs.length≤1000000)(wf:WF h)(dM:lo≤h.n)(aS:h.lim≤h.n) :
  ∃ v' h',fc D 34 [v,.int .i64 i,.sl fD 4 0 1] h=some (v',h')∧Own lo h' v' 37 4 ((xs.take i++x::xs.drop i).map aH)∧Ext lo h h'∧gC 37 h h':=by
 have Gl:=aI gv
 rw[e34]
 cases ho with
 | nil hv hx =>
  subst hv
  have Pq:xs=[]:=List.map_eq_nil_iff.1 hx
  subst Pq
  have uK:i=0:=by simpa using hi
  subst uK
  refine⟨.sl h.n 4 0 1,h.push (.arr 37 4 [aH x] none),?_,.arr h.n rfl bQ aS dM,(Ext.refl dM wf).push,(gC.refl _ _).push⟩
  simp only[cX,t34]
  rw[aM _ _ _ _ (by simp)]
  simp[gv,jJ,bF]
 | arr id hv hg Gs nG =>
  subst hv
  have aY:=aI hg
  have cY:fD≠id:=by intro e;subst e;rw[gv]at hg;simp at hg
  have hw:WF (h.set id .dead):=wf.set
  have gv':∀o l,({(h.set id .dead).push o with lim:=l}:aA).get fD=some (.arr vety 4 [aH x] (some c)):=fun o l=>by
   rw[nL,cD,if_neg (by rw[Rb];omega),bW wf aY,if_neg cY];exact gv
  have g0:∀o l,({(h.set id .dead).push o with lim:=l}:aA).get h.n=some o:=fun o l=>by
   rw[nL];exact bQ
  have gO:((xs.take i++x::xs.drop i).map aH).all (dJ 200 h.n)=true:=by
   rw[List.all_eq_true]
   intro y hy
   obtain⟨z,_,rfl⟩:=List.mem_map.1 hy
   exact(A3 z).belowN (by decide)
  have hd:List.take (xs.length+1) (List.drop 0 ((xs.take i++x::xs.drop i).map aH))=(xs.take i++x::xs.drop i).map aH:=by
   rw[List.drop_zero,List.take_of_length_le (by simp only[List.length_map,List.length_append,List.length_take,List.length_cons,List.length_drop];omega)]
  have sc1:eF (ev D) t34 [.int .i64 i,.sl fD 4 0 1] id 4 0 (xs.map aH).length 37 (xs.map aH) h 1 none=some ((xs.take i++x::xs.drop i).map aH):=by
   obtain⟨H',k1,k2⟩:=a34 {(h.set id .dead).push (.arr 37 4 (xs.map aH++[.unk]) none)with lim:=h.n} h.n xs i x fD vety (some c) (g0 _ _) (gv' _ _) hi hl hw.push (Nat.le_refl _) (by omega)
   simp only[eF,List.length_map,List.replicate_one]
   rw[k1]
   have cB:0+(xs.length+1)≤((xs.take i++x::xs.drop i).map aH).length:=by simp;omega
   simp only[jK,k2,true_and,Nat.le_refl]
   rw[hd,if_pos ⟨cB,gO⟩]
  have sc2:eF (ev D) t34 [.int .i64 i,.sl fD 4 0 1] id 4 0 (xs.map aH).length 37 (xs.map aH) h 0 (some ((xs.map aH).length+0))=some ((xs.take i++x::xs.drop i).map aH):=by
   obtain⟨H',k1,k2⟩:=b34 {(h.set id .dead).push (.arr 37 4 (xs.map aH) (some xs.length))with lim:=h.n} h.n xs i x fD vety (some c) (g0 _ _) (gv' _ _) hi hl hw.push (Nat.le_refl _) (by omega)
   simp only[eF,List.length_map,List.replicate_zero,List.append_nil,Nat.add_zero]
   rw[k1]
   have cB:0+(xs.length+1)≤((xs.take i++x::xs.drop i).map aH).length:=by simp;omega
   have hn:h.n≤({(h.set id .dead).push (.arr 37 4 (xs.map aH) (some xs.length))with lim:=h.n}:aA).n:=Nat.le_succ _
   simp only[jK,k2,true_and]
   rw[hd,if_pos ⟨hn,cB,gO⟩]
  have jD:rO ((xs.take i++x::xs.drop i).map aH) ((xs.take i++x::xs.drop i).map aH)=true:=fV _
  refine⟨.sl h.n 4 0 ((xs.take i++x::xs.drop i).map aH).length,(h.set id .dead).push (.arr 37 4 ((xs.take i++x::xs.drop i).map aH) none),?_,.arr h.n rfl (by exact bQ) aS dM,((Ext.refl dM wf).set nG aY).push,((gC.refl _ _).set wf hg aY).push⟩
  simp only[cX,show t34.mode=.split from rfl,hg,true_and,Gs,if_true]
  unfold gY
  have hk:(List.map sX [DV.int .i64 (i:Int),DV.sl fD 4 0 1]).foldl (·+·) 0=1:=rfl
  rw[hk,sc1]
  simp only[List.range_one,List.all_cons,List.all_nil,sc2,jD,Bool.and_self,if_true]
theorem q34{h:aA}{v:DV}{i fD:Nat}{A:Option (DV×aA)}(hA:fc D 34 [v,.int .i64 (i:Int),.sl fD 4 0 1] h=A)(lo:Nat)(xs:List bZ)(x:bZ){vety c:Nat}(ho:Own lo h v 37 4 (xs.map aH))(gv:h.get fD=some (.arr vety 4 [aH x] (some c)))(hi:i≤xs.length)(hl:xs.length≤1000000)(wf:WF h)(dM:lo≤h.n)(aS:h.lim≤h.n) :
  ∃ v' h',A=some (v',h')∧Own lo h' v' 37 4 ((xs.take i++x::xs.drop i).map aH)∧Ext lo h h'∧gC 37 h h':=by
 subst hA
 exact s34 lo h v xs i x fD vety c ho gv hi hl wf dM aS
theorem a35(H:aA)(n0:Nat)(xs:List ID)(i:Nat)(x:ID)(fD vety:Nat)(vcap:Option Nat)(g0:H.get n0=some (.arr 24 2 (xs.map eID++[.unk]) none))(gv:H.get fD=some (.arr vety 2 [eID x] vcap))(hi:i≤xs.length)(hl:xs.length≤1000000)(wf:WF H)(aS:H.lim≤n0)(cY:fD≠n0) :
  ∃ H',fL (ev D) t35 [.sl n0 2 0 xs.length,.int .i64 i,.sl fD 2 0 1] H=some (.sl n0 2 0 (xs.length+1),H')∧H'.get n0=some (.arr 24 2 ((xs.take i++x::xs.drop i).map eID) none):=by
 have aY:=aI g0
 have w1:IntKind.i64.wrap ((xs.length:Int)+1)=(xs.length:Int)+1:=bC (by omega) (by omega)
 rw[aM _ _ _ _ (by simp[t35])]
 by_cases sT:i=xs.length
 ·subst sT
  simp[t35,g0,gv]
  rw[gS g0 (by simp) aS (by simp;omega) (by decide) (by simp)]
  simp[bW wf aY,cN]
 ·have tP:¬((i:Int)=xs.length):=by omega
  have w2:IntKind.i64.wrap ((i:Int)+1)=(i:Int)+1:=bC (by omega) (by omega)
  have nG:i+1≤xs.length+1:=by omega
  have T5:i+1+(xs.length-i)≤xs.length+1:=by omega
  have GP:i+(xs.length+1-i)≤xs.length+1:=by omega
  have KO:i≤xs.length+1:=by omega
  have hx:i<(xs.map eID).length:=by simp;omega
  have e1:=sF (xs.map eID) .unk i hx
  have e2:=zP (xs.map eID) (eID x) i hx
  have KN:xs.length+1≤min (i+1) xs.length+(xs.length-i):=by omega
  have KM:i+1≤min (i+1) xs.length+(xs.length-i):=by omega
  simp only[List.length_map]at e1 e2
  simp[t35,g0,gv,tP,hi,w1,w2,e1,e2,KN,KM,nG,T5,GP,KO,e81,cO,cY,aS,aY,bW wf,bW wf.set]
  have e3:List.take (xs.length+1-i) [eID x]=[eID x]:=List.take_of_length_le (by simp;omega)
  rw[e3,e2]
theorem b35(H:aA)(n0:Nat)(xs:List ID)(i:Nat)(x:ID)(fD vety:Nat)(vcap:Option Nat)(g0:H.get n0=some (.arr 24 2 (xs.map eID) (some xs.length)))(gv:H.get fD=some (.arr vety 2 [eID x] vcap))(hi:i≤xs.length)(hl:xs.length≤1000000)(wf:WF H)(aS:H.lim≤n0)(cY:fD≠n0) :
  ∃ H',fL (ev D) t35 [.sl n0 2 0 xs.length,.int .i64 i,.sl fD 2 0 1] H=some (.sl H.n 2 0 (xs.length+1),H')∧H'.get H.n=some (.arr 24 2 ((xs.take i++x::xs.drop i).map eID) none):=by
 have aY:=aI g0
 have Gl:=aI gv
 have w1:IntKind.i64.wrap ((xs.length:Int)+1)=(xs.length:Int)+1:=bC (by omega) (by omega)
 rw[aM _ _ _ _ (by simp[t35])]
 by_cases sT:i=xs.length
 ·subst sT
  simp[t35,g0,gv]
  rw[eN g0 (by simp) (by simp) (by simp;omega) (by decide) (by simp)]
  simp
  rw[List.take_of_length_le (by simp)]
 ·have tP:¬((i:Int)=xs.length):=by omega
  have w2:IntKind.i64.wrap ((i:Int)+1)=(i:Int)+1:=bC (by omega) (by omega)
  have w3:IntKind.i64.wrap ((xs.length:Int)+1-i)=((xs.length+1-i:Nat):Int):=by rw[bC (by omega) (by omega)];omega
  have hx:i<(xs.map eID).length:=by simp;omega
  have hq:(xs.length:Int)<(xs.length:Int)+1:=by omega
  have Bk:H.lim≤H.n:=by omega
  have hz:((xs.length+1-i:Nat):Int)≤140737488355328:=by omega
  have e1:=fun z=>vC (xs.map eID) z (eID x) i hx
  have e2:=fun z=>vB (xs.map eID) z (eID x) i hx
  have e3:i+(xs.length+1-i)=xs.length+1:=by omega
  have e4:i+(xs.length-i+1)=xs.length+1:=by omega
  have e5:i+1≤xs.length+1:=by omega
  have e6:i+1+(xs.length-i)≤xs.length+1:=by omega
  have e7:i≤xs.length+1:=by omega
  have e8:List.take (xs.length+1-i) [eID x]=[eID x]:=List.take_of_length_le (by simp;omega)
  have e9:List.take (xs.length-i) (List.drop i (List.map eID xs))=List.drop i (List.map eID xs):=List.take_of_length_le (by simp)
  simp only[List.length_map]at e1 e2
  simp[t35,g0,gv,tP,hi,w1,w2,w3,hq,hz]
  rw[eN g0 (by simp;omega) (by simp;omega) (by simp;omega) (by decide) (by simp;omega)]
  simp[g0,gv,w2,hi,aY,Gl,aS,Bk,e3,e4,e5,e6,e7,e1,e2,e8,e9,Nat.ne_of_lt aY,Nat.ne_of_lt Gl,Nat.min_eq_left hi]
theorem s35(lo:Nat)(h:aA)(v:DV)(xs:List ID)(i:Nat)(x:ID)(fD vety c:Nat)(ho:Own lo h v 24 2 (xs.map eID))(gv:h.get fD=some (.arr vety 2 [eID x] (some c)))(hi:i≤xs.length)(hl:xs.length≤1000000)(wf:WF h)(dM:lo≤h.n)(aS:h.lim≤h.n) :
  ∃ v' h',fc D 35 [v,.int .i64 i,.sl fD 2 0 1] h=some (v',h')∧Own lo h' v' 24 2 ((xs.take i++x::xs.drop i).map eID)∧Ext lo h h'∧gC 24 h h':=by
 have Gl:=aI gv
 rw[e35]
 cases ho with
 | nil hv hx =>
  subst hv
  have Pq:xs=[]:=List.map_eq_nil_iff.1 hx
  subst Pq
  have uK:i=0:=by simpa using hi
  subst uK
  refine⟨.sl h.n 2 0 1,h.push (.arr 24 2 [eID x] none),?_,.arr h.n rfl bQ aS dM,(Ext.refl dM wf).push,(gC.refl _ _).push⟩
  simp only[cX,t35]
  rw[aM _ _ _ _ (by simp)]
  simp[gv,jJ,bF]
 | arr id hv hg Gs nG =>
  subst hv
  have aY:=aI hg
  have cY:fD≠id:=by intro e;subst e;rw[gv]at hg;simp at hg
  have hw:WF (h.set id .dead):=wf.set
  have gv':∀o l,({(h.set id .dead).push o with lim:=l}:aA).get fD=some (.arr vety 2 [eID x] (some c)):=fun o l=>by
   rw[nL,cD,if_neg (by rw[Rb];omega),bW wf aY,if_neg cY];exact gv
  have g0:∀o l,({(h.set id .dead).push o with lim:=l}:aA).get h.n=some o:=fun o l=>by
   rw[nL];exact bQ
  have gO:((xs.take i++x::xs.drop i).map eID).all (dJ 200 h.n)=true:=by
   rw[List.all_eq_true]
   intro y hy
   obtain⟨z,_,rfl⟩:=List.mem_map.1 hy
   exact(PO z).belowN (by decide)
  have hd:List.take (xs.length+1) (List.drop 0 ((xs.take i++x::xs.drop i).map eID))=(xs.take i++x::xs.drop i).map eID:=by
   rw[List.drop_zero,List.take_of_length_le (by simp only[List.length_map,List.length_append,List.length_take,List.length_cons,List.length_drop];omega)]
  have sc1:eF (ev D) t35 [.int .i64 i,.sl fD 2 0 1] id 2 0 (xs.map eID).length 24 (xs.map eID) h 1 none=some ((xs.take i++x::xs.drop i).map eID):=by
   obtain⟨H',k1,k2⟩:=a35 {(h.set id .dead).push (.arr 24 2 (xs.map eID++[.unk]) none)with lim:=h.n} h.n xs i x fD vety (some c) (g0 _ _) (gv' _ _) hi hl hw.push (Nat.le_refl _) (by omega)
   simp only[eF,List.length_map,List.replicate_one]
   rw[k1]
   have cB:0+(xs.length+1)≤((xs.take i++x::xs.drop i).map eID).length:=by simp;omega
   simp only[jK,k2,true_and,Nat.le_refl]
   rw[hd,if_pos ⟨cB,gO⟩]
  have sc2:eF (ev D) t35 [.int .i64 i,.sl fD 2 0 1] id 2 0 (xs.map eID).length 24 (xs.map eID) h 0 (some ((xs.map eID).length+0))=some ((xs.take i++x::xs.drop i).map eID):=by
   obtain⟨H',k1,k2⟩:=b35 {(h.set id .dead).push (.arr 24 2 (xs.map eID) (some xs.length))with lim:=h.n} h.n xs i x fD vety (some c) (g0 _ _) (gv' _ _) hi hl hw.push (Nat.le_refl _) (by omega)
   simp only[eF,List.length_map,List.replicate_zero,List.append_nil,Nat.add_zero]
   rw[k1]
   have cB:0+(xs.length+1)≤((xs.take i++x::xs.drop i).map eID).length:=by simp;omega
   have hn:h.n≤({(h.set id .dead).push (.arr 24 2 (xs.map eID) (some xs.length))with lim:=h.n}:aA).n:=Nat.le_succ _
   simp only[jK,k2,true_and]
   rw[hd,if_pos ⟨hn,cB,gO⟩]
  have jD:rO ((xs.take i++x::xs.drop i).map eID) ((xs.take i++x::xs.drop i).map eID)=true:=fV _
  refine⟨.sl h.n 2 0 ((xs.take i++x::xs.drop i).map eID).length,(h.set id .dead).push (.arr 24 2 ((xs.take i++x::xs.drop i).map eID) none),?_,.arr h.n rfl (by exact bQ) aS dM,((Ext.refl dM wf).set nG aY).push,((gC.refl _ _).set wf hg aY).push⟩
  simp only[cX,show t35.mode=.split from rfl,hg,true_and,Gs,if_true]
  unfold gY
  have hk:(List.map sX [DV.int .i64 (i:Int),DV.sl fD 2 0 1]).foldl (·+·) 0=1:=rfl
  rw[hk,sc1]
  simp only[List.range_one,List.all_cons,List.all_nil,sc2,jD,Bool.and_self,if_true]
theorem q35{h:aA}{v:DV}{i fD:Nat}{A:Option (DV×aA)}(hA:fc D 35 [v,.int .i64 (i:Int),.sl fD 2 0 1] h=A)(lo:Nat)(xs:List ID)(x:ID){vety c:Nat}(ho:Own lo h v 24 2 (xs.map eID))(gv:h.get fD=some (.arr vety 2 [eID x] (some c)))(hi:i≤xs.length)(hl:xs.length≤1000000)(wf:WF h)(dM:lo≤h.n)(aS:h.lim≤h.n) :
  ∃ v' h',A=some (v',h')∧Own lo h' v' 24 2 ((xs.take i++x::xs.drop i).map eID)∧Ext lo h h'∧gC 24 h h':=by
 subst hA
 exact s35 lo h v xs i x fD vety c ho gv hi hl wf dM aS
theorem WI(H:aA)(n0:Nat)(xs:List aX)(i:Nat)(x:aX)(fD vety:Nat)(vcap:Option Nat)(g0:H.get n0=some (.arr 58 7 (xs.map aD++[.unk]) none))(gv:H.get fD=some (.arr vety 7 [aD x] vcap))(hi:i≤xs.length)(hl:xs.length≤1000000)(wf:WF H)(aS:H.lim≤n0)(cY:fD≠n0) :
  ∃ H',fL (ev D) xN [.sl n0 7 0 xs.length,.int .i64 i,.sl fD 7 0 1] H=some (.sl n0 7 0 (xs.length+1),H')∧H'.get n0=some (.arr 58 7 ((xs.take i++x::xs.drop i).map aD) none):=by
 have aY:=aI g0
 have w1:IntKind.i64.wrap ((xs.length:Int)+1)=(xs.length:Int)+1:=bC (by omega) (by omega)
 rw[aM _ _ _ _ (by simp[xN])]
 by_cases sT:i=xs.length
 ·subst sT
  simp[xN,g0,gv]
  rw[gS g0 (by simp) aS (by simp;omega) (by decide) (by simp)]
  simp[bW wf aY,cN]
 ·have tP:¬((i:Int)=xs.length):=by omega
  have w2:IntKind.i64.wrap ((i:Int)+1)=(i:Int)+1:=bC (by omega) (by omega)
  have nG:i+1≤xs.length+1:=by omega
  have T5:i+1+(xs.length-i)≤xs.length+1:=by omega
  have GP:i+(xs.length+1-i)≤xs.length+1:=by omega
  have KO:i≤xs.length+1:=by omega
  have hx:i<(xs.map aD).length:=by simp;omega
  have e1:=sF (xs.map aD) .unk i hx
  have e2:=zP (xs.map aD) (aD x) i hx
  have KN:xs.length+1≤min (i+1) xs.length+(xs.length-i):=by omega
  have KM:i+1≤min (i+1) xs.length+(xs.length-i):=by omega
  simp only[List.length_map]at e1 e2
  simp[xN,g0,gv,tP,hi,w1,w2,e1,e2,KN,KM,nG,T5,GP,KO,TT,cO,cY,aS,aY,bW wf,bW wf.set]
  have e3:List.take (xs.length+1-i) [aD x]=[aD x]:=List.take_of_length_le (by simp;omega)
  rw[e3,e2]
theorem WD(H:aA)(n0:Nat)(xs:List aX)(i:Nat)(x:aX)(fD vety:Nat)(vcap:Option Nat)(g0:H.get n0=some (.arr 58 7 (xs.map aD) (some xs.length)))(gv:H.get fD=some (.arr vety 7 [aD x] vcap))(hi:i≤xs.length)(hl:xs.length≤1000000)(wf:WF H)(aS:H.lim≤n0)(cY:fD≠n0) :
  ∃ H',fL (ev D) xN [.sl n0 7 0 xs.length,.int .i64 i,.sl fD 7 0 1] H=some (.sl H.n 7 0 (xs.length+1),H')∧H'.get H.n=some (.arr 58 7 ((xs.take i++x::xs.drop i).map aD) none):=by
 have aY:=aI g0
 have Gl:=aI gv
 have w1:IntKind.i64.wrap ((xs.length:Int)+1)=(xs.length:Int)+1:=bC (by omega) (by omega)
 rw[aM _ _ _ _ (by simp[xN])]
 by_cases sT:i=xs.length
 ·subst sT
  simp[xN,g0,gv]
  rw[eN g0 (by simp) (by simp) (by simp;omega) (by decide) (by simp)]
  simp
  rw[List.take_of_length_le (by simp)]
 ·have tP:¬((i:Int)=xs.length):=by omega
  have w2:IntKind.i64.wrap ((i:Int)+1)=(i:Int)+1:=bC (by omega) (by omega)
  have w3:IntKind.i64.wrap ((xs.length:Int)+1-i)=((xs.length+1-i:Nat):Int):=by rw[bC (by omega) (by omega)];omega
  have hx:i<(xs.map aD).length:=by simp;omega
  have hq:(xs.length:Int)<(xs.length:Int)+1:=by omega
  have Bk:H.lim≤H.n:=by omega
  have hz:((xs.length+1-i:Nat):Int)≤140737488355328:=by omega
  have e1:=fun z=>vC (xs.map aD) z (aD x) i hx
  have e2:=fun z=>vB (xs.map aD) z (aD x) i hx
  have e3:i+(xs.length+1-i)=xs.length+1:=by omega
  have e4:i+(xs.length-i+1)=xs.length+1:=by omega
  have e5:i+1≤xs.length+1:=by omega
  have e6:i+1+(xs.length-i)≤xs.length+1:=by omega
  have e7:i≤xs.length+1:=by omega
  have e8:List.take (xs.length+1-i) [aD x]=[aD x]:=List.take_of_length_le (by simp;omega)
  have e9:List.take (xs.length-i) (List.drop i (List.map aD xs))=List.drop i (List.map aD xs):=List.take_of_length_le (by simp)
  simp only[List.length_map]at e1 e2
  simp[xN,g0,gv,tP,hi,w1,w2,w3,hq,hz]
  rw[eN g0 (by simp;omega) (by simp;omega) (by simp;omega) (by decide) (by simp;omega)]
  simp[g0,gv,w2,hi,aY,Gl,aS,Bk,e3,e4,e5,e6,e7,e1,e2,e8,e9,Nat.ne_of_lt aY,Nat.ne_of_lt Gl,Nat.min_eq_left hi]
theorem SU(lo:Nat)(h:aA)(v:DV)(xs:List aX)(i:Nat)(x:aX)(fD vety c:Nat)(ho:Own lo h v 58 7 (xs.map aD))(gv:h.get fD=some (.arr vety 7 [aD x] (some c)))(hi:i≤xs.length)(hl:xs.length≤1000000)(wf:WF h)(dM:lo≤h.n)(aS:h.lim≤h.n) :
  ∃ v' h',fc D 129 [v,.int .i64 i,.sl fD 7 0 1] h=some (v',h')∧Own lo h' v' 58 7 ((xs.take i++x::xs.drop i).map aD)∧Ext lo h h'∧gC 58 h h':=by
 have Gl:=aI gv
 rw[UG]
 cases ho with
 | nil hv hx =>
  subst hv
  have Pq:xs=[]:=List.map_eq_nil_iff.1 hx
  subst Pq
  have uK:i=0:=by simpa using hi
  subst uK
  refine⟨.sl h.n 7 0 1,h.push (.arr 58 7 [aD x] none),?_,.arr h.n rfl bQ aS dM,(Ext.refl dM wf).push,(gC.refl _ _).push⟩
  simp only[cX,xN]
  rw[aM _ _ _ _ (by simp)]
  simp[gv,jJ,bF]
 | arr id hv hg Gs nG =>
  subst hv
  have aY:=aI hg
  have cY:fD≠id:=by intro e;subst e;rw[gv]at hg;simp at hg
  have hw:WF (h.set id .dead):=wf.set
  have gv':∀o l,({(h.set id .dead).push o with lim:=l}:aA).get fD=some (.arr vety 7 [aD x] (some c)):=fun o l=>by
   rw[nL,cD,if_neg (by rw[Rb];omega),bW wf aY,if_neg cY];exact gv
  have g0:∀o l,({(h.set id .dead).push o with lim:=l}:aA).get h.n=some o:=fun o l=>by
   rw[nL];exact bQ
  have gO:((xs.take i++x::xs.drop i).map aD).all (dJ 200 h.n)=true:=by
   rw[List.all_eq_true]
   intro y hy
   obtain⟨z,_,rfl⟩:=List.mem_map.1 hy
   exact(W4 z).belowN (by decide)
  have hd:List.take (xs.length+1) (List.drop 0 ((xs.take i++x::xs.drop i).map aD))=(xs.take i++x::xs.drop i).map aD:=by
   rw[List.drop_zero,List.take_of_length_le (by simp only[List.length_map,List.length_append,List.length_take,List.length_cons,List.length_drop];omega)]
  have sc1:eF (ev D) xN [.int .i64 i,.sl fD 7 0 1] id 7 0 (xs.map aD).length 58 (xs.map aD) h 1 none=some ((xs.take i++x::xs.drop i).map aD):=by
   obtain⟨H',k1,k2⟩:=WI {(h.set id .dead).push (.arr 58 7 (xs.map aD++[.unk]) none)with lim:=h.n} h.n xs i x fD vety (some c) (g0 _ _) (gv' _ _) hi hl hw.push (Nat.le_refl _) (by omega)
   simp only[eF,List.length_map,List.replicate_one]
   rw[k1]
   have cB:0+(xs.length+1)≤((xs.take i++x::xs.drop i).map aD).length:=by simp;omega
   simp only[jK,k2,true_and,Nat.le_refl]
   rw[hd,if_pos ⟨cB,gO⟩]
  have sc2:eF (ev D) xN [.int .i64 i,.sl fD 7 0 1] id 7 0 (xs.map aD).length 58 (xs.map aD) h 0 (some ((xs.map aD).length+0))=some ((xs.take i++x::xs.drop i).map aD):=by
   obtain⟨H',k1,k2⟩:=WD {(h.set id .dead).push (.arr 58 7 (xs.map aD) (some xs.length))with lim:=h.n} h.n xs i x fD vety (some c) (g0 _ _) (gv' _ _) hi hl hw.push (Nat.le_refl _) (by omega)
   simp only[eF,List.length_map,List.replicate_zero,List.append_nil,Nat.add_zero]
   rw[k1]
   have cB:0+(xs.length+1)≤((xs.take i++x::xs.drop i).map aD).length:=by simp;omega
   have hn:h.n≤({(h.set id .dead).push (.arr 58 7 (xs.map aD) (some xs.length))with lim:=h.n}:aA).n:=Nat.le_succ _
   simp only[jK,k2,true_and]
   rw[hd,if_pos ⟨hn,cB,gO⟩]
  have jD:rO ((xs.take i++x::xs.drop i).map aD) ((xs.take i++x::xs.drop i).map aD)=true:=fV _
  refine⟨.sl h.n 7 0 ((xs.take i++x::xs.drop i).map aD).length,(h.set id .dead).push (.arr 58 7 ((xs.take i++x::xs.drop i).map aD) none),?_,.arr h.n rfl (by exact bQ) aS dM,((Ext.refl dM wf).set nG aY).push,((gC.refl _ _).set wf hg aY).push⟩
  simp only[cX,show xN.mode=.split from rfl,hg,true_and,Gs,if_true]
  unfold gY
  have hk:(List.map sX [DV.int .i64 (i:Int),DV.sl fD 7 0 1]).foldl (·+·) 0=1:=rfl
  rw[hk,sc1]
  simp only[List.range_one,List.all_cons,List.all_nil,sc2,jD,Bool.and_self,if_true]
theorem JB{h:aA}{v:DV}{i fD:Nat}{A:Option (DV×aA)}(hA:fc D 129 [v,.int .i64 (i:Int),.sl fD 7 0 1] h=A)(lo:Nat)(xs:List aX)(x:aX){vety c:Nat}(ho:Own lo h v 58 7 (xs.map aD))(gv:h.get fD=some (.arr vety 7 [aD x] (some c)))(hi:i≤xs.length)(hl:xs.length≤1000000)(wf:WF h)(dM:lo≤h.n)(aS:h.lim≤h.n) :
  ∃ v' h',A=some (v',h')∧Own lo h' v' 58 7 ((xs.take i++x::xs.drop i).map aD)∧Ext lo h h'∧gC 58 h h':=by
 subst hA
 exact SU lo h v xs i x fD vety c ho gv hi hl wf dM aS
theorem a43(H:aA)(n0:Nat)(xs:List gT)(i:Nat)(x:gT)(fD vety:Nat)(vcap:Option Nat)(g0:H.get n0=some (.arr 102 3 (xs.map bL++[.unk]) none))(gv:H.get fD=some (.arr vety 3 [bL x] vcap))(hi:i≤xs.length)(hl:xs.length≤1000000)(wf:WF H)(aS:H.lim≤n0)(cY:fD≠n0) :
  ∃ H',fL (ev D) t43 [.sl n0 3 0 xs.length,.int .i64 i,.sl fD 3 0 1] H=some (.sl n0 3 0 (xs.length+1),H')∧H'.get n0=some (.arr 102 3 ((xs.take i++x::xs.drop i).map bL) none):=by
 have aY:=aI g0
 have w1:IntKind.i64.wrap ((xs.length:Int)+1)=(xs.length:Int)+1:=bC (by omega) (by omega)
 rw[aM _ _ _ _ (by simp[t43])]
 by_cases sT:i=xs.length
 ·subst sT
  simp[t43,g0,gv]
  rw[gS g0 (by simp) aS (by simp;omega) (by decide) (by simp)]
  simp[bW wf aY,cN]
 ·have tP:¬((i:Int)=xs.length):=by omega
  have w2:IntKind.i64.wrap ((i:Int)+1)=(i:Int)+1:=bC (by omega) (by omega)
  have nG:i+1≤xs.length+1:=by omega
  have T5:i+1+(xs.length-i)≤xs.length+1:=by omega
  have GP:i+(xs.length+1-i)≤xs.length+1:=by omega
  have KO:i≤xs.length+1:=by omega
  have hx:i<(xs.map bL).length:=by simp;omega
  have e1:=sF (xs.map bL) .unk i hx
  have e2:=zP (xs.map bL) (bL x) i hx
  have KN:xs.length+1≤min (i+1) xs.length+(xs.length-i):=by omega
  have KM:i+1≤min (i+1) xs.length+(xs.length-i):=by omega
  simp only[List.length_map]at e1 e2
  simp[t43,g0,gv,tP,hi,w1,w2,e1,e2,KN,KM,nG,T5,GP,KO,e89,cO,cY,aS,aY,bW wf,bW wf.set]
  have e3:List.take (xs.length+1-i) [bL x]=[bL x]:=List.take_of_length_le (by simp;omega)
  rw[e3,e2]
theorem b43(H:aA)(n0:Nat)(xs:List gT)(i:Nat)(x:gT)(fD vety:Nat)(vcap:Option Nat)(g0:H.get n0=some (.arr 102 3 (xs.map bL) (some xs.length)))(gv:H.get fD=some (.arr vety 3 [bL x] vcap))(hi:i≤xs.length)(hl:xs.length≤1000000)(wf:WF H)(aS:H.lim≤n0)(cY:fD≠n0) :
  ∃ H',fL (ev D) t43 [.sl n0 3 0 xs.length,.int .i64 i,.sl fD 3 0 1] H=some (.sl H.n 3 0 (xs.length+1),H')∧H'.get H.n=some (.arr 102 3 ((xs.take i++x::xs.drop i).map bL) none):=by
 have aY:=aI g0
 have Gl:=aI gv
 have w1:IntKind.i64.wrap ((xs.length:Int)+1)=(xs.length:Int)+1:=bC (by omega) (by omega)
 rw[aM _ _ _ _ (by simp[t43])]
 by_cases sT:i=xs.length
 ·subst sT
  simp[t43,g0,gv]
  rw[eN g0 (by simp) (by simp) (by simp;omega) (by decide) (by simp)]
  simp
  rw[List.take_of_length_le (by simp)]
 ·have tP:¬((i:Int)=xs.length):=by omega
  have w2:IntKind.i64.wrap ((i:Int)+1)=(i:Int)+1:=bC (by omega) (by omega)
  have w3:IntKind.i64.wrap ((xs.length:Int)+1-i)=((xs.length+1-i:Nat):Int):=by rw[bC (by omega) (by omega)];omega
  have hx:i<(xs.map bL).length:=by simp;omega
  have hq:(xs.length:Int)<(xs.length:Int)+1:=by omega
  have Bk:H.lim≤H.n:=by omega
  have hz:((xs.length+1-i:Nat):Int)≤140737488355328:=by omega
  have e1:=fun z=>vC (xs.map bL) z (bL x) i hx
  have e2:=fun z=>vB (xs.map bL) z (bL x) i hx
  have e3:i+(xs.length+1-i)=xs.length+1:=by omega
  have e4:i+(xs.length-i+1)=xs.length+1:=by omega
  have e5:i+1≤xs.length+1:=by omega
  have e6:i+1+(xs.length-i)≤xs.length+1:=by omega
  have e7:i≤xs.length+1:=by omega
  have e8:List.take (xs.length+1-i) [bL x]=[bL x]:=List.take_of_length_le (by simp;omega)
  have e9:List.take (xs.length-i) (List.drop i (List.map bL xs))=List.drop i (List.map bL xs):=List.take_of_length_le (by simp)
  simp only[List.length_map]at e1 e2
  simp[t43,g0,gv,tP,hi,w1,w2,w3,hq,hz]
  rw[eN g0 (by simp;omega) (by simp;omega) (by simp;omega) (by decide) (by simp;omega)]
  simp[g0,gv,w2,hi,aY,Gl,aS,Bk,e3,e4,e5,e6,e7,e1,e2,e8,e9,Nat.ne_of_lt aY,Nat.ne_of_lt Gl,Nat.min_eq_left hi]
theorem s43(lo:Nat)(h:aA)(v:DV)(xs:List gT)(i:Nat)(x:gT)(fD vety c:Nat)(ho:Own lo h v 102 3 (xs.map bL))(gv:h.get fD=some (.arr vety 3 [bL x] (some c)))(hi:i≤xs.length)(hl:xs.length≤1000000)(wf:WF h)(dM:lo≤h.n)(aS:h.lim≤h.n) :
  ∃ v' h',fc D 43 [v,.int .i64 i,.sl fD 3 0 1] h=some (v',h')∧Own lo h' v' 102 3 ((xs.take i++x::xs.drop i).map bL)∧Ext lo h h'∧gC 102 h h':=by
 have Gl:=aI gv
 rw[e43]
 cases ho with
 | nil hv hx =>
  subst hv
  have Pq:xs=[]:=List.map_eq_nil_iff.1 hx
  subst Pq
  have uK:i=0:=by simpa using hi
  subst uK
  refine⟨.sl h.n 3 0 1,h.push (.arr 102 3 [bL x] none),?_,.arr h.n rfl bQ aS dM,(Ext.refl dM wf).push,(gC.refl _ _).push⟩
  simp only[cX,t43]
  rw[aM _ _ _ _ (by simp)]
  simp[gv,jJ,bF]
 | arr id hv hg Gs nG =>
  subst hv
  have aY:=aI hg
  have cY:fD≠id:=by intro e;subst e;rw[gv]at hg;simp at hg
  have hw:WF (h.set id .dead):=wf.set
  have gv':∀o l,({(h.set id .dead).push o with lim:=l}:aA).get fD=some (.arr vety 3 [bL x] (some c)):=fun o l=>by
   rw[nL,cD,if_neg (by rw[Rb];omega),bW wf aY,if_neg cY];exact gv
  have g0:∀o l,({(h.set id .dead).push o with lim:=l}:aA).get h.n=some o:=fun o l=>by
   rw[nL];exact bQ
  have gO:((xs.take i++x::xs.drop i).map bL).all (dJ 200 h.n)=true:=by
   rw[List.all_eq_true]
   intro y hy
   obtain⟨z,_,rfl⟩:=List.mem_map.1 hy
   exact(H8 z).belowN (by decide)
  have hd:List.take (xs.length+1) (List.drop 0 ((xs.take i++x::xs.drop i).map bL))=(xs.take i++x::xs.drop i).map bL:=by
   rw[List.drop_zero,List.take_of_length_le (by simp only[List.length_map,List.length_append,List.length_take,List.length_cons,List.length_drop];omega)]
  have sc1:eF (ev D) t43 [.int .i64 i,.sl fD 3 0 1] id 3 0 (xs.map bL).length 102 (xs.map bL) h 1 none=some ((xs.take i++x::xs.drop i).map bL):=by
   obtain⟨H',k1,k2⟩:=a43 {(h.set id .dead).push (.arr 102 3 (xs.map bL++[.unk]) none)with lim:=h.n} h.n xs i x fD vety (some c) (g0 _ _) (gv' _ _) hi hl hw.push (Nat.le_refl _) (by omega)
   simp only[eF,List.length_map,List.replicate_one]
   rw[k1]
   have cB:0+(xs.length+1)≤((xs.take i++x::xs.drop i).map bL).length:=by simp;omega
   simp only[jK,k2,true_and,Nat.le_refl]
   rw[hd,if_pos ⟨cB,gO⟩]
  have sc2:eF (ev D) t43 [.int .i64 i,.sl fD 3 0 1] id 3 0 (xs.map bL).length 102 (xs.map bL) h 0 (some ((xs.map bL).length+0))=some ((xs.take i++x::xs.drop i).map bL):=by
   obtain⟨H',k1,k2⟩:=b43 {(h.set id .dead).push (.arr 102 3 (xs.map bL) (some xs.length))with lim:=h.n} h.n xs i x fD vety (some c) (g0 _ _) (gv' _ _) hi hl hw.push (Nat.le_refl _) (by omega)
   simp only[eF,List.length_map,List.replicate_zero,List.append_nil,Nat.add_zero]
   rw[k1]
   have cB:0+(xs.length+1)≤((xs.take i++x::xs.drop i).map bL).length:=by simp;omega
   have hn:h.n≤({(h.set id .dead).push (.arr 102 3 (xs.map bL) (some xs.length))with lim:=h.n}:aA).n:=Nat.le_succ _
   simp only[jK,k2,true_and]
   rw[hd,if_pos ⟨hn,cB,gO⟩]
  have jD:rO ((xs.take i++x::xs.drop i).map bL) ((xs.take i++x::xs.drop i).map bL)=true:=fV _
  refine⟨.sl h.n 3 0 ((xs.take i++x::xs.drop i).map bL).length,(h.set id .dead).push (.arr 102 3 ((xs.take i++x::xs.drop i).map bL) none),?_,.arr h.n rfl (by exact bQ) aS dM,((Ext.refl dM wf).set nG aY).push,((gC.refl _ _).set wf hg aY).push⟩
  simp only[cX,show t43.mode=.split from rfl,hg,true_and,Gs,if_true]
  unfold gY
  have hk:(List.map sX [DV.int .i64 (i:Int),DV.sl fD 3 0 1]).foldl (·+·) 0=1:=rfl
  rw[hk,sc1]
  simp only[List.range_one,List.all_cons,List.all_nil,sc2,jD,Bool.and_self,if_true]
theorem q43{h:aA}{v:DV}{i fD:Nat}{A:Option (DV×aA)}(hA:fc D 43 [v,.int .i64 (i:Int),.sl fD 3 0 1] h=A)(lo:Nat)(xs:List gT)(x:gT){vety c:Nat}(ho:Own lo h v 102 3 (xs.map bL))(gv:h.get fD=some (.arr vety 3 [bL x] (some c)))(hi:i≤xs.length)(hl:xs.length≤1000000)(wf:WF h)(dM:lo≤h.n)(aS:h.lim≤h.n) :
  ∃ v' h',A=some (v',h')∧Own lo h' v' 102 3 ((xs.take i++x::xs.drop i).map bL)∧Ext lo h h'∧gC 102 h h':=by
 subst hA
 exact s43 lo h v xs i x fD vety c ho gv hi hl wf dM aS
theorem WH(H:aA)(n0:Nat)(xs:List iB)(i:Nat)(x:iB)(fD vety:Nat)(vcap:Option Nat)(g0:H.get n0=some (.arr 98 5 (xs.map aW++[.unk]) none))(gv:H.get fD=some (.arr vety 5 [aW x] vcap))(hi:i≤xs.length)(hl:xs.length≤1000000)(wf:WF H)(aS:H.lim≤n0)(cY:fD≠n0) :
  ∃ H',fL (ev D) xM [.sl n0 5 0 xs.length,.int .i64 i,.sl fD 5 0 1] H=some (.sl n0 5 0 (xs.length+1),H')∧H'.get n0=some (.arr 98 5 ((xs.take i++x::xs.drop i).map aW) none):=by
 have aY:=aI g0
 have w1:IntKind.i64.wrap ((xs.length:Int)+1)=(xs.length:Int)+1:=bC (by omega) (by omega)
 rw[aM _ _ _ _ (by simp[xM])]
 by_cases sT:i=xs.length
 ·subst sT
  simp[xM,g0,gv]
  rw[gS g0 (by simp) aS (by simp;omega) (by decide) (by simp)]
  simp[bW wf aY,cN]
 ·have tP:¬((i:Int)=xs.length):=by omega
  have w2:IntKind.i64.wrap ((i:Int)+1)=(i:Int)+1:=bC (by omega) (by omega)
  have nG:i+1≤xs.length+1:=by omega
  have T5:i+1+(xs.length-i)≤xs.length+1:=by omega
  have GP:i+(xs.length+1-i)≤xs.length+1:=by omega
  have KO:i≤xs.length+1:=by omega
  have hx:i<(xs.map aW).length:=by simp;omega
  have e1:=sF (xs.map aW) .unk i hx
  have e2:=zP (xs.map aW) (aW x) i hx
  have KN:xs.length+1≤min (i+1) xs.length+(xs.length-i):=by omega
  have KM:i+1≤min (i+1) xs.length+(xs.length-i):=by omega
  simp only[List.length_map]at e1 e2
  simp[xM,g0,gv,tP,hi,w1,w2,e1,e2,KN,KM,nG,T5,GP,KO,TQ,cO,cY,aS,aY,bW wf,bW wf.set]
  have e3:List.take (xs.length+1-i) [aW x]=[aW x]:=List.take_of_length_le (by simp;omega)
  rw[e3,e2]
theorem WC(H:aA)(n0:Nat)(xs:List iB)(i:Nat)(x:iB)(fD vety:Nat)(vcap:Option Nat)(g0:H.get n0=some (.arr 98 5 (xs.map aW) (some xs.length)))(gv:H.get fD=some (.arr vety 5 [aW x] vcap))(hi:i≤xs.length)(hl:xs.length≤1000000)(wf:WF H)(aS:H.lim≤n0)(cY:fD≠n0) :
  ∃ H',fL (ev D) xM [.sl n0 5 0 xs.length,.int .i64 i,.sl fD 5 0 1] H=some (.sl H.n 5 0 (xs.length+1),H')∧H'.get H.n=some (.arr 98 5 ((xs.take i++x::xs.drop i).map aW) none):=by
 have aY:=aI g0
 have Gl:=aI gv
 have w1:IntKind.i64.wrap ((xs.length:Int)+1)=(xs.length:Int)+1:=bC (by omega) (by omega)
 rw[aM _ _ _ _ (by simp[xM])]
 by_cases sT:i=xs.length
 ·subst sT
  simp[xM,g0,gv]
  rw[eN g0 (by simp) (by simp) (by simp;omega) (by decide) (by simp)]
  simp
  rw[List.take_of_length_le (by simp)]
 ·have tP:¬((i:Int)=xs.length):=by omega
  have w2:IntKind.i64.wrap ((i:Int)+1)=(i:Int)+1:=bC (by omega) (by omega)
  have w3:IntKind.i64.wrap ((xs.length:Int)+1-i)=((xs.length+1-i:Nat):Int):=by rw[bC (by omega) (by omega)];omega
  have hx:i<(xs.map aW).length:=by simp;omega
  have hq:(xs.length:Int)<(xs.length:Int)+1:=by omega
  have Bk:H.lim≤H.n:=by omega
  have hz:((xs.length+1-i:Nat):Int)≤140737488355328:=by omega
  have e1:=fun z=>vC (xs.map aW) z (aW x) i hx
  have e2:=fun z=>vB (xs.map aW) z (aW x) i hx
  have e3:i+(xs.length+1-i)=xs.length+1:=by omega
  have e4:i+(xs.length-i+1)=xs.length+1:=by omega
  have e5:i+1≤xs.length+1:=by omega
  have e6:i+1+(xs.length-i)≤xs.length+1:=by omega
  have e7:i≤xs.length+1:=by omega
  have e8:List.take (xs.length+1-i) [aW x]=[aW x]:=List.take_of_length_le (by simp;omega)
  have e9:List.take (xs.length-i) (List.drop i (List.map aW xs))=List.drop i (List.map aW xs):=List.take_of_length_le (by simp)
  simp only[List.length_map]at e1 e2
  simp[xM,g0,gv,tP,hi,w1,w2,w3,hq,hz]
  rw[eN g0 (by simp;omega) (by simp;omega) (by simp;omega) (by decide) (by simp;omega)]
  simp[g0,gv,w2,hi,aY,Gl,aS,Bk,e3,e4,e5,e6,e7,e1,e2,e8,e9,Nat.ne_of_lt aY,Nat.ne_of_lt Gl,Nat.min_eq_left hi]
theorem SM(lo:Nat)(h:aA)(v:DV)(xs:List iB)(i:Nat)(x:iB)(fD vety c:Nat)(ho:Own lo h v 98 5 (xs.map aW))(gv:h.get fD=some (.arr vety 5 [aW x] (some c)))(hi:i≤xs.length)(hl:xs.length≤1000000)(wf:WF h)(dM:lo≤h.n)(aS:h.lim≤h.n) :
  ∃ v' h',fc D 156 [v,.int .i64 i,.sl fD 5 0 1] h=some (v',h')∧Own lo h' v' 98 5 ((xs.take i++x::xs.drop i).map aW)∧Ext lo h h'∧gC 98 h h':=by
 have Gl:=aI gv
 rw[TZ]
 cases ho with
 | nil hv hx =>
  subst hv
  have Pq:xs=[]:=List.map_eq_nil_iff.1 hx
  subst Pq
  have uK:i=0:=by simpa using hi
  subst uK
  refine⟨.sl h.n 5 0 1,h.push (.arr 98 5 [aW x] none),?_,.arr h.n rfl bQ aS dM,(Ext.refl dM wf).push,(gC.refl _ _).push⟩
  simp only[cX,xM]
  rw[aM _ _ _ _ (by simp)]
  simp[gv,jJ,bF]
 | arr id hv hg Gs nG =>
  subst hv
  have aY:=aI hg
  have cY:fD≠id:=by intro e;subst e;rw[gv]at hg;simp at hg
  have hw:WF (h.set id .dead):=wf.set
  have gv':∀o l,({(h.set id .dead).push o with lim:=l}:aA).get fD=some (.arr vety 5 [aW x] (some c)):=fun o l=>by
   rw[nL,cD,if_neg (by rw[Rb];omega),bW wf aY,if_neg cY];exact gv
  have g0:∀o l,({(h.set id .dead).push o with lim:=l}:aA).get h.n=some o:=fun o l=>by
   rw[nL];exact bQ
  have gO:((xs.take i++x::xs.drop i).map aW).all (dJ 200 h.n)=true:=by
   rw[List.all_eq_true]
   intro y hy
   obtain⟨z,_,rfl⟩:=List.mem_map.1 hy
   exact(Uk z).belowN (by decide)
  have hd:List.take (xs.length+1) (List.drop 0 ((xs.take i++x::xs.drop i).map aW))=(xs.take i++x::xs.drop i).map aW:=by
   rw[List.drop_zero,List.take_of_length_le (by simp only[List.length_map,List.length_append,List.length_take,List.length_cons,List.length_drop];omega)]
  have sc1:eF (ev D) xM [.int .i64 i,.sl fD 5 0 1] id 5 0 (xs.map aW).length 98 (xs.map aW) h 1 none=some ((xs.take i++x::xs.drop i).map aW):=by
   obtain⟨H',k1,k2⟩:=WH {(h.set id .dead).push (.arr 98 5 (xs.map aW++[.unk]) none)with lim:=h.n} h.n xs i x fD vety (some c) (g0 _ _) (gv' _ _) hi hl hw.push (Nat.le_refl _) (by omega)
   simp only[eF,List.length_map,List.replicate_one]
   rw[k1]
   have cB:0+(xs.length+1)≤((xs.take i++x::xs.drop i).map aW).length:=by simp;omega
   simp only[jK,k2,true_and,Nat.le_refl]
   rw[hd,if_pos ⟨cB,gO⟩]
  have sc2:eF (ev D) xM [.int .i64 i,.sl fD 5 0 1] id 5 0 (xs.map aW).length 98 (xs.map aW) h 0 (some ((xs.map aW).length+0))=some ((xs.take i++x::xs.drop i).map aW):=by
   obtain⟨H',k1,k2⟩:=WC {(h.set id .dead).push (.arr 98 5 (xs.map aW) (some xs.length))with lim:=h.n} h.n xs i x fD vety (some c) (g0 _ _) (gv' _ _) hi hl hw.push (Nat.le_refl _) (by omega)
   simp only[eF,List.length_map,List.replicate_zero,List.append_nil,Nat.add_zero]
   rw[k1]
   have cB:0+(xs.length+1)≤((xs.take i++x::xs.drop i).map aW).length:=by simp;omega
   have hn:h.n≤({(h.set id .dead).push (.arr 98 5 (xs.map aW) (some xs.length))with lim:=h.n}:aA).n:=Nat.le_succ _
   simp only[jK,k2,true_and]
   rw[hd,if_pos ⟨hn,cB,gO⟩]
  have jD:rO ((xs.take i++x::xs.drop i).map aW) ((xs.take i++x::xs.drop i).map aW)=true:=fV _
  refine⟨.sl h.n 5 0 ((xs.take i++x::xs.drop i).map aW).length,(h.set id .dead).push (.arr 98 5 ((xs.take i++x::xs.drop i).map aW) none),?_,.arr h.n rfl (by exact bQ) aS dM,((Ext.refl dM wf).set nG aY).push,((gC.refl _ _).set wf hg aY).push⟩
  simp only[cX,show xM.mode=.split from rfl,hg,true_and,Gs,if_true]
  unfold gY
  have hk:(List.map sX [DV.int .i64 (i:Int),DV.sl fD 5 0 1]).foldl (·+·) 0=1:=rfl
  rw[hk,sc1]
  simp only[List.range_one,List.all_cons,List.all_nil,sc2,jD,Bool.and_self,if_true]
theorem SX{h:aA}{v:DV}{i fD:Nat}{A:Option (DV×aA)}(hA:fc D 156 [v,.int .i64 (i:Int),.sl fD 5 0 1] h=A)(lo:Nat)(xs:List iB)(x:iB){vety c:Nat}(ho:Own lo h v 98 5 (xs.map aW))(gv:h.get fD=some (.arr vety 5 [aW x] (some c)))(hi:i≤xs.length)(hl:xs.length≤1000000)(wf:WF h)(dM:lo≤h.n)(aS:h.lim≤h.n) :
  ∃ v' h',A=some (v',h')∧Own lo h' v' 98 5 ((xs.take i++x::xs.drop i).map aW)∧Ext lo h h'∧gC 98 h h':=by
 subst hA
 exact SM lo h v xs i x fD vety c ho gv hi hl wf dM aS
end Go.Dm.Tc
/-
What functions of the statements' books compute: are two rows the same?
-/
namespace Go.Dm.Tc
theorem EK{x y:ID}(h:x≠y):(x.bS == y.bS && x.seq == y.seq)=false:=by
 obtain⟨a,b⟩:=x
 obtain⟨c,d⟩:=y
 simp only[ne_eq,ID.mk.injEq,not_and]at h
 by_cases h1:a=c
 ·simp[h1,h h1]
 ·simp[h1]
end Go.Dm.Tc
/-
What functions of the library compute,part 6: an element taken out of a row of the call's own;elements taken out by a function.
-/
namespace Go.Dm.Tc
def lenOf:DV→Option Nat
 | .nsl=>some 0
 | .sl _ _ _ len=>some len
 | .isl _ _ xs=>some xs.length
 | _=>none
def wF(x lo hi mx:DV):Option DV :=
 match lenOf x with
 | some len=>match dG (some mx) 0 len with
  | some m=>match dG (some hi) 0 m with
   | some b=>match dG (some lo) 0 b with
    | some _=>some .unk
    | none=>none
   | none=>none
  | none=>none
 | none=>none
def vR(h:aA)(sz:Nat)(z x:DV):Option (DV×aA) :=
 match x with
 | .nsl=>some (.tup [],h)
 | .isl _ _ []=>some (.tup [],h)
 | .sl id dT off len=>if len=0 then some (.tup [],h)else match vO h sz (.sl id dT off len) (List.replicate len z)with|some (_,h')=>some (.tup [],h')|none=>none
 | _=>none
theorem wJ(c:Nat→List DV→aA→Option (DV×aA))(h:aA)(env:Env)(x lo hi mx:Opd):bH c (.slice3 x lo hi mx) env h=dE h (wF (x.eval env) (lo.eval env) (hi.eval env) (mx.eval env)):=by
 simp only[bH,aC,wF,Hx,Option.map_some]
 cases x.eval env<;>try rfl
 all_goals
  simp only[lenOf]
  generalize dG (some (mx.eval env)) 0 _=A
  cases A with
  | none=>rfl
  | some m =>
   simp only
   cases dG (some (hi.eval env)) 0 m with
   | none=>rfl
   | some b =>
    simp only
    cases dG (some (lo.eval env)) 0 b with
    | none=>rfl
    | some a=>rfl
theorem zN(c:Nat→List DV→aA→Option (DV×aA))(h:aA)(env:Env)(sz:Nat)(z:DV)(x:Opd):bH c (.clear sz z x) env h=vR h sz z (x.eval env):=by
 simp only[bH,aC,vR]
 cases x.eval env<;>rfl
theorem Ew{id sz off len lo hi:Nat}(h1:lo≤hi)(h2:hi≤len):wF (.sl id sz off len) (.int .i64 (lo:Int)) (.int .i64 (hi:Int)) (.int .i64 (len:Int))=some .unk:=by
 simp only[wF,lenOf]
 rw[iO _ _ _ _ (Nat.le_refl _)]
 simp only
 rw[iO _ _ _ _ h2]
 simp only
 rw[iO _ _ _ _ h1]
theorem wO{h:aA}{id ety sz off len:Nat}{xs:List DV}{cap:Option Nat}{z:DV}(hg:h.get id=some (.arr ety sz xs cap))(hl:off+len≤xs.length)(aS:h.lim≤id)(h0:len≠0) :
  vR h sz z (.sl id sz off len)=some (.tup [],h.set id (.arr ety sz (cN xs (List.replicate len z) off) cap)):=by
 simp[vR,h0,hg,hl,aS]
theorem FM(X:List DV)(i:Nat)(hi:i+1<X.length):cN X (X.drop (i+1)) i=(X.take i++X.drop (i+1))++X.drop (X.length-1):=by
 unfold cN
 rw[List.length_drop]
 congr 2
 omega
theorem Et(A B ys:List DV):cN (A++B) ys A.length=A++(ys++B.drop ys.length):=by
 unfold cN
 rw[List.take_left' rfl,List.append_assoc,List.drop_append]
 simp
theorem ST(lo:Nat)(h:aA)(v:DV)(xs:List aX)(i:Nat)(ho:Own lo h v 58 7 (xs.map aD))(hi:i<xs.length)(hl:xs.length≤1000000)(wf:WF h)(dM:lo≤h.n) :
  ∃ v' h',fc D 130 [v,.int .i64 (i:Int),.int .i64 ((i:Int)+1)] h=some (v',h')∧OwnR lo h' v' 58 7 ((xs.take i++xs.drop (i+1)).map aD)∧Ext lo h h'∧gC 58 h h':=by
 rw[UF]
 cases ho with
 | nil hv hx =>
  have Pq:xs=[]:=List.map_eq_nil_iff.1 hx
  subst Pq
  simp at hi
 | arr id hv hg Gs nG =>
  subst hv
  have aY:=aI hg
  have hb3:wF (.sl id 7 0 xs.length) (.int .i64 (i:Int)) (.int .i64 ((i:Int)+1)) (.int .i64 (xs.length:Int))=some .unk:=Ew (hi:=i+1) (by omega) (by omega)
  have cY:¬((i:Int)=(i:Int)+1):=by omega
  rw[aM _ _ _ _ (by simp[M6])]
  by_cases hend:i+1=xs.length
  ·have h1:i+1≤xs.length:=by omega
   have e2:xs.length-(i+1)=0:=by omega
   have e3:List.drop (i+1) xs=[]:=List.drop_eq_nil_of_le (by omega)
   have e4:xs.length-i=1:=by omega
   have hn0:(i:Int)≤(xs.length:Int):=by omega
   have Ti:∀z,vR h 7 z (.sl id 7 i 1)=some (.tup [],h.set id (.arr 58 7 (cN (xs.map aD) [z] i) none)):=fun z=>wO (len:=1) hg (by simp;omega) Gs (by decide)
   have KU:bF h 58 7 72 (.sl id 7 0 i) []=some (.sl id 7 0 i,h):=rfl
   have oP:i≤xs.length:=by omega
   simp[M6,wJ,zN,hb3,cY,hg,h1,e2,e3,e4,Ti,KU,oP]
   refine⟨_,_,⟨rfl,rfl⟩,.arr id [(.agg [.int .i64 0,.int .i64 0,.int .i64 0,.int .i64 0,.nsl,.int .i64 0,.bool false])] none (by simp;omega) ?_ Gs nG,(Ext.refl dM wf).set nG aY,(gC.refl _ _).set wf hg aY⟩
   rw[bW wf aY,if_pos rfl]
   simp[cN]
   omega
  ·have h1:i+1≤xs.length:=by omega
   have h2:i+1<(xs.map aD).length:=by simp;omega
   have e1:List.take (xs.length-(i+1)) (List.drop (i+1) (List.map aD xs))=List.drop (i+1) (List.map aD xs):=List.take_of_length_le (by simp)
   have e5:i+1+(xs.length-(i+1))≤xs.length:=by omega
   have e6:i+(xs.length-(i+1))=xs.length-1:=by omega
   have e7:xs.length-(xs.length-1)=1:=by omega
   have oP:i≤xs.length:=by omega
   have hq:xs.length-1≤xs.length:=by omega
   obtain⟨H,hH⟩:∃ H,H=h.set id (.arr 58 7 ((xs.map aD).take i++(xs.map aD).drop (i+1)++(xs.map aD).drop (xs.length-1)) none):=⟨_,rfl⟩
   have KU:bF h 58 7 72 (.sl id 7 0 i) (List.drop (i+1) (List.map aD xs))=some (.sl id 7 0 (xs.length-1),H):=by
    rw[gS hg (by simp;omega) Gs (by simp;omega) (by decide) (by simp;omega),FM _ _ h2,hH]
    simp[e6]
   have gH:H.get id=some (.arr 58 7 ((xs.map aD).take i++(xs.map aD).drop (i+1)++(xs.map aD).drop (xs.length-1)) none):=by rw[hH,bW wf aY,if_pos rfl]
   have lH:H.lim=h.lim:=by rw[hH];rfl
   have wH:WF H:=by rw[hH];exact wf.set
   have nH:H.n=h.n:=by rw[hH];rfl
   have GO:(List.take i (xs.map aD)++List.drop (i+1) (xs.map aD)).length=xs.length-1:=by simp;omega
   have Ti:∀z,vR H 7 z (.sl id 7 (xs.length-1) 1)=some (.tup [],H.set id (.arr 58 7 (cN ((xs.map aD).take i++(xs.map aD).drop (i+1)++(xs.map aD).drop (xs.length-1)) [z] (xs.length-1)) none)):=fun z=>wO (len:=1) gH (by simp;omega) (by rw[lH];exact Gs) (by decide)
   have As:IntKind.i64.wrap ((xs.length-1:Nat):Int)=((xs.length-1:Nat):Int):=bC (by omega) (by omega)
   have MG:Ev 7 7 id 0 (xs.length-1) (some (.int .i64 ((xs.length-1:Nat):Int))) (some (.int .i64 ((xs.length:Nat):Int))) (H.get id)=some (.sl id 7 (xs.length-1) 1):=by
    have hL:(List.take i (xs.map aD)++List.drop (i+1) (xs.map aD)++List.drop (xs.length-1) (xs.map aD)).length=xs.length:=by simp;omega
    rw[gH,uQ,hL,if_pos ⟨rfl,rfl,by omega⟩,iO _ _ _ _ (by omega),uP,iO _ _ _ _ (by omega),Az]
    simp[e7]
   simp[M6,wJ,zN,hb3,cY,hg,h1,e1,KU,oP,MG,Ti]
   refine⟨_,_,⟨rfl,rfl⟩,.arr id [(.agg [.int .i64 0,.int .i64 0,.int .i64 0,.int .i64 0,.nsl,.int .i64 0,.bool false])] none (by simp;omega) ?_ ?_ nG,?_,?_⟩
   ·rw[bW wH (by rw[nH];exact aY),if_pos rfl]
    have:=Et (List.take i (xs.map aD)++List.drop (i+1) (xs.map aD)) (List.drop (xs.length-1) (xs.map aD)) [(.agg [.int .i64 0,.int .i64 0,.int .i64 0,.int .i64 0,.nsl,.int .i64 0,.bool false])]
    rw[GO]at this
    rw[List.append_assoc]at this
    rw[this]
    simp
    omega
   ·show H.lim≤id
    rw[lH];exact Gs
   ·rw[hH]
    exact((Ext.refl dM wf).set nG aY).set nG (by exact aY)
   ·rw[hH]
    exact((gC.refl _ _).set wf hg aY).set wf.set hg (by exact aY)
theorem s47(lo:Nat)(h:aA)(v:DV)(xs:List gT)(i:Nat)(ho:Own lo h v 102 3 (xs.map bL))(hi:i<xs.length)(hl:xs.length≤1000000)(wf:WF h)(dM:lo≤h.n) :
  ∃ v' h',fc D 47 [v,.int .i64 (i:Int),.int .i64 ((i:Int)+1)] h=some (v',h')∧OwnR lo h' v' 102 3 ((xs.take i++xs.drop (i+1)).map bL)∧Ext lo h h'∧gC 102 h h':=by
 rw[e47]
 cases ho with
 | nil hv hx =>
  have Pq:xs=[]:=List.map_eq_nil_iff.1 hx
  subst Pq
  simp at hi
 | arr id hv hg Gs nG =>
  subst hv
  have aY:=aI hg
  have hb3:wF (.sl id 3 0 xs.length) (.int .i64 (i:Int)) (.int .i64 ((i:Int)+1)) (.int .i64 (xs.length:Int))=some .unk:=Ew (hi:=i+1) (by omega) (by omega)
  have cY:¬((i:Int)=(i:Int)+1):=by omega
  rw[aM _ _ _ _ (by simp[t47])]
  by_cases hend:i+1=xs.length
  ·have h1:i+1≤xs.length:=by omega
   have e2:xs.length-(i+1)=0:=by omega
   have e3:List.drop (i+1) xs=[]:=List.drop_eq_nil_of_le (by omega)
   have e4:xs.length-i=1:=by omega
   have hn0:(i:Int)≤(xs.length:Int):=by omega
   have Ti:∀z,vR h 3 z (.sl id 3 i 1)=some (.tup [],h.set id (.arr 102 3 (cN (xs.map bL) [z] i) none)):=fun z=>wO (len:=1) hg (by simp;omega) Gs (by decide)
   have KU:bF h 102 3 40 (.sl id 3 0 i) []=some (.sl id 3 0 i,h):=rfl
   have oP:i≤xs.length:=by omega
   simp[t47,wJ,zN,hb3,cY,hg,h1,e2,e3,e4,Ti,KU,oP]
   refine⟨_,_,⟨rfl,rfl⟩,.arr id [(.agg [.int .i64 0,.int .i64 0,.nsl])] none (by simp;omega) ?_ Gs nG,(Ext.refl dM wf).set nG aY,(gC.refl _ _).set wf hg aY⟩
   rw[bW wf aY,if_pos rfl]
   simp[cN]
   omega
  ·have h1:i+1≤xs.length:=by omega
   have h2:i+1<(xs.map bL).length:=by simp;omega
   have e1:List.take (xs.length-(i+1)) (List.drop (i+1) (List.map bL xs))=List.drop (i+1) (List.map bL xs):=List.take_of_length_le (by simp)
   have e5:i+1+(xs.length-(i+1))≤xs.length:=by omega
   have e6:i+(xs.length-(i+1))=xs.length-1:=by omega
   have e7:xs.length-(xs.length-1)=1:=by omega
   have oP:i≤xs.length:=by omega
   have hq:xs.length-1≤xs.length:=by omega
   obtain⟨H,hH⟩:∃ H,H=h.set id (.arr 102 3 ((xs.map bL).take i++(xs.map bL).drop (i+1)++(xs.map bL).drop (xs.length-1)) none):=⟨_,rfl⟩
   have KU:bF h 102 3 40 (.sl id 3 0 i) (List.drop (i+1) (List.map bL xs))=some (.sl id 3 0 (xs.length-1),H):=by
    rw[gS hg (by simp;omega) Gs (by simp;omega) (by decide) (by simp;omega),FM _ _ h2,hH]
    simp[e6]
   have gH:H.get id=some (.arr 102 3 ((xs.map bL).take i++(xs.map bL).drop (i+1)++(xs.map bL).drop (xs.length-1)) none):=by rw[hH,bW wf aY,if_pos rfl]
   have lH:H.lim=h.lim:=by rw[hH];rfl
   have wH:WF H:=by rw[hH];exact wf.set
   have nH:H.n=h.n:=by rw[hH];rfl
   have GO:(List.take i (xs.map bL)++List.drop (i+1) (xs.map bL)).length=xs.length-1:=by simp;omega
   have Ti:∀z,vR H 3 z (.sl id 3 (xs.length-1) 1)=some (.tup [],H.set id (.arr 102 3 (cN ((xs.map bL).take i++(xs.map bL).drop (i+1)++(xs.map bL).drop (xs.length-1)) [z] (xs.length-1)) none)):=fun z=>wO (len:=1) gH (by simp;omega) (by rw[lH];exact Gs) (by decide)
   have As:IntKind.i64.wrap ((xs.length-1:Nat):Int)=((xs.length-1:Nat):Int):=bC (by omega) (by omega)
   have MG:Ev 3 3 id 0 (xs.length-1) (some (.int .i64 ((xs.length-1:Nat):Int))) (some (.int .i64 ((xs.length:Nat):Int))) (H.get id)=some (.sl id 3 (xs.length-1) 1):=by
    have hL:(List.take i (xs.map bL)++List.drop (i+1) (xs.map bL)++List.drop (xs.length-1) (xs.map bL)).length=xs.length:=by simp;omega
    rw[gH,uQ,hL,if_pos ⟨rfl,rfl,by omega⟩,iO _ _ _ _ (by omega),uP,iO _ _ _ _ (by omega),Az]
    simp[e7]
   simp[t47,wJ,zN,hb3,cY,hg,h1,e1,KU,oP,MG,Ti]
   refine⟨_,_,⟨rfl,rfl⟩,.arr id [(.agg [.int .i64 0,.int .i64 0,.nsl])] none (by simp;omega) ?_ ?_ nG,?_,?_⟩
   ·rw[bW wH (by rw[nH];exact aY),if_pos rfl]
    have:=Et (List.take i (xs.map bL)++List.drop (i+1) (xs.map bL)) (List.drop (xs.length-1) (xs.map bL)) [(.agg [.int .i64 0,.int .i64 0,.nsl])]
    rw[GO]at this
    rw[List.append_assoc]at this
    rw[this]
    simp
    omega
   ·show H.lim≤id
    rw[lH];exact Gs
   ·rw[hH]
    exact((Ext.refl dM wf).set nG aY).set nG (by exact aY)
   ·rw[hH]
    exact((gC.refl _ _).set wf hg aY).set wf.set hg (by exact aY)
end Go.Dm.Tc
/-
What functions of the library compute,part 7: elements taken out by a function.
-/
namespace Go.Dm.Tc
end Go.Dm.Tc
/-
What functions of the program compute,part 1: how advertisements are ordered and found.
-/
namespace Go.Dm.Tc
theorem Wy(a:Int):pcF D Av [.int .i64 a]=some (.bool false):=by
 unfold pcF
 rw[aM _ _ _ _ (by simp[Av])]
 simp[Av]
def cmpI(a b:Int):Int:=if a<b then -1 else if b<a then 1 else 0
theorem NZ(a b:Int):pcF D uO [.int .i64 a,.int .i64 b]=some (.int .i64 (cmpI a b)):=by
 unfold pcF
 rw[aM _ _ _ _ (by simp[uO])]
 by_cases h1:a<b
 ·simp[uO,Zy,Wy,h1,cmpI]
 ·by_cases h2:b<a
  ·simp[uO,Zy,Wy,h1,h2,cmpI]
  ·simp[uO,Zy,Wy,h1,h2,cmpI]
def orI(a b:Int):Int:=if a=0 then b else a
theorem OA(t:Bool)(a b:Int):pcF D Aw [.isl t 1 [.int .i64 a,.int .i64 b]]=some (.int .i64 (orI a b)):=by
 unfold pcF
 rw[aM _ _ _ _ (by simp[Aw])]
 simp[Aw]
 rw[aO sY.eq_1]
 by_cases h1:a=0
 ·simp[h1,orI,cF,asI]
  rw[aO sY.eq_1]
  by_cases h2:b=0
  ·simp[h2,cF,asI]
   rw[aO sY.eq_1]
   simp[Ek]
  ·simp[h2,cF,asI]
 ·simp[h1,orI,cF,asI]
def cQ(a b:ID):Int:=orI (cmpI a.bS b.bS) (cmpI a.seq b.seq)
theorem s76(a b c d:Int):pcF D t76 [.agg [.int .i64 a,.int .i64 b],.agg [.int .i64 c,.int .i64 d]]=some (.int .i64 (cQ ⟨a,b⟩ ⟨c,d⟩)):=by
 unfold pcF
 rw[aM _ _ _ _ (by simp[t76])]
 simp[t76,PM,NZ,PN,mkIsl,OA,cQ]
def qC(a b:ID):Bool:=decide (cQ a b<0)
theorem s88(a b c d:Int):pcF D t88 [.agg [.int .i64 a,.int .i64 b],.agg [.int .i64 c,.int .i64 d]]=some (.bool (qC ⟨a,b⟩ ⟨c,d⟩)):=by
 unfold pcF
 rw[aM _ _ _ _ (by simp[t88])]
 simp[t88,e76,s76,qC]
theorem s78(a b:Int)(p:aZ)(q c d:Int):pcF D t78 [.agg [.int .i64 a,.int .i64 b,bO p,.int .i64 q],.agg [.int .i64 c,.int .i64 d]]=some (.int .i64 (cQ ⟨a,b⟩ ⟨c,d⟩)):=by
 unfold pcF
 rw[aM _ _ _ _ (by simp[t78])]
 simp[t78,e76,s76]
def eG(l:List ID):Prop:=l.Pairwise fun a b=>cQ a b<0
theorem iA{a b:ID}:cQ a b<0↔a.bS<b.bS∨a.bS=b.bS∧a.seq<b.seq:=by
 unfold cQ orI cmpI
 split<;>split<;>(try split)<;>(try split)<;>omega
theorem pX{a b:ID}:cQ a b=0↔a=b:=by
 cases a;cases b
 simp only[ID.mk.injEq]
 unfold cQ orI cmpI
 simp only
 split<;>split<;>(try split)<;>(try split)<;>omega
theorem Cw{a b c:ID}(h1:cQ a b<0)(h2:cQ b c<0):cQ a c<0:=by
 rw[iA]at *;omega
theorem W7(a b:ID):cQ a b<0∨a=b∨cQ b a<0:=by
 rw[iA,iA]
 cases a;cases b
 simp only[ID.mk.injEq]
 omega
theorem lS{α:Type}{key:α→ID}{xs:List α}(h:eG (xs.map key))(x:ID):∀i j (hi:i<xs.length) (hj:j<xs.length),i≤j→cQ (key xs[j]) x<0→cQ (key xs[i]) x<0:=by
 intro i j hi hj T4 aY
 rcases Nat.lt_or_eq_of_le T4 with hl|rfl
 ·have:=List.pairwise_iff_getElem.1 h i j (by simpa using hi) (by simpa using hj) hl
  simp only[List.getElem_map]at this
  exact Cw this aY
 ·exact aY
theorem s32(x0 x1 x2 x4 x5:DV)(t:Bool)(l:List ID)(c d:Int)(hr:eG l)(hl:l.length≤1000000) :
  pcF D t32 [.agg [x0,x1,x2,eL t 2 eID l,x4,x5],.agg [.int .i64 c,.int .i64 d]]=some (.tup [.int .i64 (bG (fun a=>cQ a ⟨c,d⟩) l),.bool (eJ (fun a=>cQ a ⟨c,d⟩) l)]):=by
 have hb:=s75 t l c d 76 [] (fun a=>cQ a ⟨c,d⟩) (fun x _ h=>by simp[eID,e76,s76]) hl (by
  have:=lS (key:=fun a:ID=>a) (xs:=l) (by simpa using hr) ⟨c,d⟩
  exact this)
 unfold pcF
 rw[aM _ _ _ _ (by simp[t32])]
 simp[t32,e75,hb,aL]
theorem s33(x0 x1 x3 x4 x5:DV)(t:Bool)(l:List bZ)(c d:Int)(hr:eG (l.map (·.id)))(hl:l.length≤1000000) :
  pcF D t33 [.agg [x0,x1,eL t 4 aH l,x3,x4,x5],.agg [.int .i64 c,.int .i64 d]]=some (.tup [.int .i64 (bG (fun a=>cQ a.id ⟨c,d⟩) l),.bool (eJ (fun a=>cQ a.id ⟨c,d⟩) l)]):=by
 have hb:=s77 t l c d 78 [] (fun a=>cQ a.id ⟨c,d⟩) (fun x _ h=>by simp[aH,e78,s78]) hl (lS hr ⟨c,d⟩)
 unfold pcF
 rw[aM _ _ _ _ (by simp[t33])]
 simp[t33,e77,hb,aL]
end Go.Dm.Tc
/-
What functions of the program compute,part 2: a broker with rows of its own;an advertisement learned.
-/
namespace Go.Dm.Tc
theorem s31(h:aA)(me:Int)(t1 t2 t3 t4 t5:Bool)(bJ:List Int)(adv:List bZ)(seen:List ID)(ent:List aX)(own:List gT)
  (l1:bJ.length≤1000000) (l2:adv.length≤1000000) (l3:seen.length≤1000000) (l4:ent.length≤1000000) (l5:own.length≤1000000) (wf:WF h) (aS:h.lim≤h.n) :
  ∃ v1 v2 v3 v4 v5 h',fc D 31 [.agg [.int .i64 me,eL t1 1 fJ bJ,eL t2 4 aH adv,eL t3 2 eID seen,eL t4 7 aD ent,eL t5 3 bL own]] h=some (.agg [.int .i64 me,v1,v2,v3,v4,v5],h') ∧
   Own h.n h' v1 3 1 (bJ.map fJ)∧Own h.n h' v2 37 4 (adv.map aH)∧Own h.n h' v3 24 2 (seen.map eID)∧Own h.n h' v4 58 7 (ent.map aD)∧Own h.n h' v5 102 3 (own.map bL)∧Ext h.n h h':=by
 rw[e31,aM _ _ _ _ (by simp[t31])]
 have hm:max (h.n+1+1) h.lim=h.n+2:=by omega
 simp[t31,e36,hm]
 generalize hA:cH _ _ _ _ _=A
 obtain⟨v1,H1,rfl,o1,x1,y1⟩:=Al (lo:=h.n+2) hA (jS ..) wf.push.push (by simp) (by simp) (by simp;omega) (by simp;omega) (by decide)
 have Pq:Ext h.n h ((h.push (.arr 31 6 [.agg [.int .i64 me,eL t1 1 fJ bJ,eL t2 4 aH adv,eL t3 2 eID seen,eL t4 7 aD ent,eL t5 3 bL own]] (some 1))).push (.arr 31 6 [.agg [.int .i64 0,.nsl,.nsl,.nsl,.nsl,.nsl]] (some 1))):=(Ext.refl (Nat.le_refl _) wf).push.push
 have z1:=Pq.trans (x1.lower (by omega:h.n≤h.n+2))
 clear hA
 simp at x1 y1 z1 o1
 generalize hK1:wl H1 _=K1 at *
 have a1:=x1.get h.n (by omega)
 have b1:=x1.get (h.n+1) (by omega)
 have q1:=x1.lim
 have w1:=x1.wf
 have n1:=x1.le
 simp at a1 b1 q1
 simp[hK1,a1,q1,hm,e72]
 generalize hA:cH _ _ _ _ _=A
 obtain⟨v2,H2,rfl,o2,x2,y2⟩:=Al (lo:=h.n+2) hA (jS ..) w1 n1 n1 (by omega) (by simp;omega) (by decide)
 rw[q1]at o2 x2 y2
 have z2:=z1.trans (x2.lower (by omega:h.n≤h.n+2))
 replace o1:=o1.ext y2
 clear hA
 generalize hK2:wl H2 _=K2 at *
 have a2:=x2.get h.n (by omega)
 have b2:=x2.get (h.n+1) (by omega)
 have q2:=x2.lim
 have w2:=x2.wf
 have n2:=x2.le
 rw[a1]at a2
 rw[b1]at b2
 rw[q1]at q2
 simp[hK2,a2,q1,q2,hm,e73]
 generalize hA:cH _ _ _ _ _=A
 obtain⟨v3,H3,rfl,o3,x3,y3⟩:=Al (lo:=h.n+2) hA (jS ..) w2 n2 n2 (by omega) (by simp;omega) (by decide)
 rw[q2]at o3 x3 y3
 have z3:=z2.trans (x3.lower (by omega:h.n≤h.n+2))
 replace o1:=o1.ext y3
 replace o2:=o2.ext y3
 clear hA
 generalize hK3:wl H3 _=K3 at *
 have a3:=x3.get h.n (by omega)
 have b3:=x3.get (h.n+1) (by omega)
 have q3:=x3.lim
 have w3:=x3.wf
 have n3:=x3.le
 rw[a2]at a3
 rw[b2]at b3
 rw[q2]at q3
 simp[hK3,a3,q2,q3,hm,e74]
 generalize hA:cH _ _ _ _ _=A
 obtain⟨v4,H4,rfl,o4,x4,y4⟩:=Al (lo:=h.n+2) hA (jS ..) w3 n3 n3 (by omega) (by simp;omega) (by decide)
 rw[q3]at o4 x4 y4
 have z4:=z3.trans (x4.lower (by omega:h.n≤h.n+2))
 replace o1:=o1.ext y4
 replace o2:=o2.ext y4
 replace o3:=o3.ext y4
 clear hA
 generalize hK4:wl H4 _=K4 at *
 have a4:=x4.get h.n (by omega)
 have b4:=x4.get (h.n+1) (by omega)
 have q4:=x4.lim
 have w4:=x4.wf
 have n4:=x4.le
 rw[a3]at a4
 rw[b3]at b4
 rw[q3]at q4
 simp[hK4,a4,q3,q4,hm,e44]
 generalize hA:cH _ _ _ _ _=A
 obtain⟨v5,K5,rfl,o5,x5,y5⟩:=pO (lo:=h.n+2) (jS ..) w4 n4 (by omega) (by simp;omega) (by decide) hA
 have z5:=z4.trans (x5.lower (by omega:h.n≤h.n+2))
 replace o1:=o1.ext y5
 replace o2:=o2.ext y5
 replace o3:=o3.ext y5
 replace o4:=o4.ext y5
 clear hA
 have a5:=x5.get h.n (by omega)
 have b5:=x5.get (h.n+1) (by omega)
 have q5:=x5.lim
 have w5:=x5.wf
 have n5:=x5.le
 rw[a4]at a5
 rw[b4]at b5
 rw[q4]at q5
 have c5:h.n<K5.n:=by omega
 have d5:h.n+1<K5.n:=by omega
 have f5:h.lim≤h.n+1:=by omega
 simp[a5,b5,q5,w5,c5,d5,f5,aS,o1.aU,o2.aU,o3.aU,o4.aU,o5.aU,o1.aF,o2.aF,o3.aF,o4.aF,o5.aF,turn]
 refine⟨v1,v2,v3,v4,v5,_,⟨⟨rfl,rfl,rfl,rfl,rfl⟩,rfl⟩,?_,?_,?_,?_,?_,?_⟩
 ·exact((o1.bA w5 (by omega) c5).bA w5.set (by omega) d5).lower (by omega)
 ·exact((o2.bA w5 (by omega) c5).bA w5.set (by omega) d5).lower (by omega)
 ·exact((o3.bA w5 (by omega) c5).bA w5.set (by omega) d5).lower (by omega)
 ·exact((o4.bA w5 (by omega) c5).bA w5.set (by omega) d5).lower (by omega)
 ·exact((o5.bA w5 (by omega) c5).bA w5.set (by omega) d5).lower (by omega)
 ·exact(z5.set (by omega) c5).set (by omega) d5
end Go.Dm.Tc
/-
What functions of the program compute,part 3: an advertisement learned,found.
-/
namespace Go.Dm.Tc
section
variable {α:Type} (key:α→ID)
def oN(a:α)(l:List α):List α:=l.take (bG (fun b=>cQ (key b) (key a)) l)++a::l.drop (bG (fun b=>cQ (key b) (key a)) l)
theorem Ff{l:List α}(h:eG (l.map key))(x:ID):(∀i (hi:i<l.length),i<bG (fun b=>cQ (key b) x) l→cQ (key l[i]) x<0)∧(∀i (hi:i<l.length),bG (fun b=>cQ (key b) x) l≤i→¬cQ (key l[i]) x<0):=by
 constructor
 ·intro i hi aY
  have:=List.not_of_lt_findIdx (p:=fun b=>!decide (cQ (key b) x<0)) aY
  simpa using this
 ·intro i hi cM hc
  have hk:bG (fun b=>cQ (key b) x) l<l.length:=Nat.lt_of_le_of_lt cM hi
  have h1:¬cQ (key l[bG (fun b=>cQ (key b) x) l]) x<0:=by
   have:=List.findIdx_getElem (p:=fun b=>!decide (cQ (key b) x<0)) (w:=hk)
   unfold bG
   simpa using this
  exact h1 (lS h x _ _ hk hi cM hc)
theorem zY{l:List α}(h:eG (l.map key))(x:ID):match l.find? (fun b=>key b=x)with
  | some a=>eJ (fun b=>cQ (key b) x) l=true∧l[bG (fun b=>cQ (key b) x) l]?=some a
  | none=>eJ (fun b=>cQ (key b) x) l=false:=by
 obtain⟨r1,r2⟩:=Ff key h x
 have zT:∀i j (hi:i<l.length) (hj:j<l.length),key l[i]=x→key l[j]=x→i=j:=by
  intro i j hi hj e1 e2
  rcases Nat.lt_trichotomy i j with aY|he|aY
  ·have:=List.pairwise_iff_getElem.1 h i j (by simpa using hi) (by simpa using hj) aY
   simp only[List.getElem_map,e1,e2]at this
   rw[iA]at this;omega
  ·exact he
  ·have:=List.pairwise_iff_getElem.1 h j i (by simpa using hj) (by simpa using hi) aY
   simp only[List.getElem_map,e1,e2]at this
   rw[iA]at this;omega
 cases hf:l.find? (fun b=>key b=x)with
 | some a =>
  have hax:key a=x:=by simpa using List.find?_some hf
  obtain⟨i,hi,La⟩:=List.mem_iff_getElem.1 (List.mem_of_find?_eq_some hf)
  have hk:bG (fun b=>cQ (key b) x) l=i:=by
   refine mT (Nat.le_of_lt hi) (fun q hq=>?_) (fun hq=>?_)
   ·have:=List.pairwise_iff_getElem.1 h q i (by simp;omega) (by simpa using hi) hq
    simp only[List.getElem_map,La,hax]at this
    exact this
   ·rw[La,hax,iA];omega
  have OY:l[bG (fun b=>cQ (key b) x) l]?=some a:=by rw[hk,List.getElem?_eq_getElem hi,La]
  refine⟨?_,OY⟩
  unfold eJ
  rw[OY]
  simp only[hax]
  simp[pX]
 | none =>
  unfold eJ
  cases hg:l[bG (fun b=>cQ (key b) x) l]? with
  | none=>rfl
  | some a =>
   have:key a≠x:=by
    have:=List.find?_eq_none.1 hf a (List.mem_of_getElem? hg)
    simpa using this
   simp only[decide_eq_false_iff_not]
   rw[pX];exact this
end
theorem KL{l:List ID}(hr:eG l)(x:ID):eJ (fun b=>cQ b x) l=decide (x∈l):=by
 have hf:=zY (fun a:ID=>a) (by simpa using hr) x
 cases hq:l.find? (fun a=>a=x)with
 | none =>
  rw[hq]at hf
  simp only at hf
  rw[hf]
  have:=List.find?_eq_none.1 hq
  symm
  simp only[decide_eq_false_iff_not]
  intro hm
  exact this x hm (by simp)
 | some a =>
  rw[hq]at hf
  rw[hf.1]
  have h1:a=x:=by simpa using List.find?_some hq
  have h2:=List.mem_of_find?_eq_some hq
  rw[h1]at h2
  simp[h2]
def advOf(b:aG)(x:ID):Option bZ:=b.aP.find? fun a=>a.id=x
def pD:bZ:=⟨⟨0,0⟩,[],0⟩
def lB{α:Type}:Option α→Bool|some _=>true|none=>false
theorem s66(x0 x1 x3 x4 x5:DV)(t:Bool)(l:List bZ)(c d:Int)(hr:eG (l.map (·.id)))(hl:l.length≤1000000)(f0:iQ 20 x0)(f1:iQ 20 x1)(f3:iQ 20 x3)(f4:iQ 20 x4)(f5:iQ 20 x5) :
  pcF D t66 [.agg [x0,x1,eL t 4 aH l,x3,x4,x5],.agg [.int .i64 c,.int .i64 d]]=some (.tup [aH ((l.find? fun a=>a.id=⟨c,d⟩).getD pD),.bool (lB (l.find? fun a=>a.id=⟨c,d⟩))]):=by
 have hf:=zY (fun a:bZ=>a.id) hr ⟨c,d⟩
 unfold pcF
 rw[aM _ _ _ _ (by simp[t66])]
 have g0:∀h,resolve true h 199 x0=some x0:=fun h=>f0 _ _ _ (by decide)
 have g1:∀h,resolve true h 199 x1=some x1:=fun h=>f1 _ _ _ (by decide)
 have g3:∀h,resolve true h 199 x3=some x3:=fun h=>f3 _ _ _ (by decide)
 have g4:∀h,resolve true h 199 x4=some x4:=fun h=>f4 _ _ _ (by decide)
 have g5:∀h,resolve true h 199 x5=some x5:=fun h=>f5 _ _ _ (by decide)
 cases hq:l.find? (fun a=>a.id=⟨c,d⟩)with
 | none =>
  rw[hq]at hf
  simp at hf
  simp[t66,e33,s33,g0,g1,g3,g4,g5,hr,hl,hf,hq,aH,pD,lB,aL]
  rfl
 | some a =>
  rw[hq]at hf
  simp at hf
  simp[t66,e33,s33,g0,g1,g3,g4,g5,hr,hl,hf.1,hf.2,hq,aH,lB,aL]
structure mK(b:aG):Prop where
 bJ:b.bJ.length≤100000
 adv:b.aP.length≤100000
 seen:b.seen.length≤100000
 ent:b.entries.length≤100000
 own:b.cW.length≤100000
def eQ(b:aG)(a:bZ):aG×Bool :=
 if a.id∈b.seen then(b,false)else({b with aP:=oN (fun a=>a.id) a b.aP,seen:=oN (fun x=>x) a.id b.seen},true)
theorem q31{h:aA}{A:Option (DV×aA)}{me:Int}{t1 t2 t3 t4 t5:Bool}{bJ:List Int}{adv:List bZ}{seen:List ID}{ent:List aX}{own:List gT}(hA:fc D 31 [.agg [.int .i64 me,eL t1 1 fJ bJ,eL t2 4 aH adv,eL t3 2 eID seen,eL t4 7 aD ent,eL t5 3 bL own]] h=A)
  (hs:mK ⟨me,bJ,adv,seen,ent,own⟩) (wf:WF h) (aS:h.lim≤h.n) :
  ∃ v1 v2 v3 v4 v5 h',A=some (.agg [.int .i64 me,v1,v2,v3,v4,v5],h') ∧
   Own h.n h' v1 3 1 (bJ.map fJ)∧Own h.n h' v2 37 4 (adv.map aH)∧Own h.n h' v3 24 2 (seen.map eID)∧Own h.n h' v4 58 7 (ent.map aD)∧Own h.n h' v5 102 3 (own.map bL)∧Ext h.n h h':=by
 subst hA
 obtain⟨z1,z2,z3,z4,z5⟩:=hs
 simp only at z1 z2 z3 z4 z5
 exact s31 h me t1 t2 t3 t4 t5 bJ adv seen ent own (by omega) (by omega) (by omega) (by omega) (by omega) wf aS
theorem s6(t:gQ)(b:aG)(c d:Int)(p:aZ)(q:Int)(hs:mK b)(ra:eG (b.aP.map (·.id)))(rs:eG b.seen) :
  pcF D t6 [aQ t b,.agg [.int .i64 c,.int .i64 d,bO p,.int .i64 q]]=some (.tup [aQ .none (eQ b ⟨⟨c,d⟩,p,q⟩).1,.bool (eQ b ⟨⟨c,d⟩,p,q⟩).2]):=by
 obtain⟨me,bJ,adv,seen,ent,own⟩:=b
 unfold pcF
 rw[aM _ _ _ _ (by simp[t6])]
 simp[t6,aQ]
 generalize hA:fc D _ _ _=A
 obtain⟨v1,v2,v3,v4,v5,K,rfl,o1,o2,o3,o4,o5,x⟩:=q31 hA hs (by simp) (by simp)
 simp at o1 o2 o3 o4 o5 x
 clear hA
 have a0:=x.get 0 (by decide)
 have a1:=x.get 1 (by decide)
 have a2:=x.get 2 (by decide)
 have q0:=x.lim
 have w0:=x.wf
 have n0:=x.le
 simp at a0 a1 a2 q0
 have l0:0<K.n:=by omega
 have l2:2<K.n:=by omega
 have r1:∀o,resolve true (K.set 0 o) 199 v1=some (eL true 1 fJ bJ):=fun o=>(o1.bA w0 (by decide) l0).resolve true (fun y _=>(tH y).1) (by decide)
 have r2:∀o,resolve true (K.set 0 o) 199 v2=some (eL true 4 aH adv):=fun o=>(o2.bA w0 (by decide) l0).resolve true (fun y _=>(pA y).1) (by decide)
 have r3:∀o,resolve true (K.set 0 o) 199 v3=some (eL true 2 eID seen):=fun o=>(o3.bA w0 (by decide) l0).resolve true (fun y _=>(zL y).1) (by decide)
 have r4:∀o,resolve true (K.set 0 o) 199 v4=some (eL true 7 aD ent):=fun o=>(o4.bA w0 (by decide) l0).resolve true (fun y _=>(cV y).1) (by decide)
 have r5:∀o,resolve true (K.set 0 o) 199 v5=some (eL true 3 bL own):=fun o=>(o5.bA w0 (by decide) l0).resolve true (fun y _=>(pH y).1) (by decide)
 have MG:seen.length≤1000000:=by have:=hs.seen;simp only at this;omega
 have GV:adv.length≤1000000:=by have:=hs.adv;simp only at this;omega
 simp only at ra rs
 have hh:=KL rs ⟨c,d⟩
 obtain⟨R,hR⟩:∃ R,R=DV.tup [aQ .none (eQ ⟨me,bJ,adv,seen,ent,own⟩ ⟨⟨c,d⟩,p,q⟩).1,.bool (eQ ⟨me,bJ,adv,seen,ent,own⟩ ⟨⟨c,d⟩,p,q⟩).2]:=⟨_,rfl⟩
 simp only[aQ]at hR
 rw[←hR]
 by_cases hm:(⟨c,d⟩:ID)∈seen
 ·have r1':∀o o',resolve false ((K.set 0 o).set 2 o') 198 v1=some (eL false 1 fJ bJ):=fun o o'=>((o1.bA w0 (by decide) l0).bA w0.set (by decide) l2).resolve false (fun y _=>(tH y).1) (by decide)
  have r2':∀o o',resolve false ((K.set 0 o).set 2 o') 198 v2=some (eL false 4 aH adv):=fun o o'=>((o2.bA w0 (by decide) l0).bA w0.set (by decide) l2).resolve false (fun y _=>(pA y).1) (by decide)
  have r3':∀o o',resolve false ((K.set 0 o).set 2 o') 198 v3=some (eL false 2 eID seen):=fun o o'=>((o3.bA w0 (by decide) l0).bA w0.set (by decide) l2).resolve false (fun y _=>(zL y).1) (by decide)
  have r4':∀o o',resolve false ((K.set 0 o).set 2 o') 198 v4=some (eL false 7 aD ent):=fun o o'=>((o4.bA w0 (by decide) l0).bA w0.set (by decide) l2).resolve false (fun y _=>(cV y).1) (by decide)
  have r5':∀o o',resolve false ((K.set 0 o).set 2 o') 198 v5=some (eL false 3 bL own):=fun o o'=>((o5.bA w0 (by decide) l0).bA w0.set (by decide) l2).resolve false (fun y _=>(pH y).1) (by decide)
  simp[a0,a1,a2,q0,w0,l0,l2,e32,s32,r1,r2,r3,r4,r5,r1',r2',r3',r4',r5',rs,MG,hh,hm,aL]
  simp[hR,eQ,hm,gQ.none]
 ·simp[a0,a1,a2,q0,w0,l0,l2,e32,s32,e33,s33,r1,r2,r3,r4,r5,rs,ra,MG,GV,hh,hm]
  generalize hA:fc D _ _ _=A
  obtain⟨v2',K2,rfl,p2,x2,k2⟩:=q34 hA 3 adv ⟨⟨c,d⟩,p,q⟩ (vety:=37) (c:=1) (o2.bA w0 (by decide) l0).push (by simp[aH]) (hG _ _) GV (by simp[w0]) (by simp;omega) (by simp[q0])
  clear hA
  have b0:=x2.get 0 (by decide)
  have b1:=x2.get 1 (by decide)
  have b2:=x2.get 2 (by decide)
  have q2:=x2.lim
  have w2:=x2.wf
  have m2:=x2.le
  have z0:¬0=K.n:=by omega
  have z1:¬1=K.n:=by omega
  have z2:¬2=K.n:=by omega
  simp[a1,a2,w0,l0,q0,z0,z1,z2]at b0 b1 b2 q2
  have p1:=(((o1.bA w0 (by decide) l0).push).keep k2 x2.lim (by decide))
  have p3:=(((o3.bA w0 (by decide) l0).push).keep k2 x2.lim (by decide))
  have p4:=(((o4.bA w0 (by decide) l0).push).keep k2 x2.lim (by decide))
  have p5:=(((o5.bA w0 (by decide) l0).push).keep k2 x2.lim (by decide))
  have m0:0<K2.n:=by omega
  have m22:2<K2.n:=by omega
  simp[b0,b1,b2,q2,w2,m0,m22,p2.aU,p2.aF,turn]
  generalize hA:fc D _ _ _=A
  obtain⟨v3',K3,rfl,p3',x3,k3⟩:=q35 hA 3 seen ⟨c,d⟩ (vety:=24) (c:=1) (p3.bA w2 (by decide) m0).push (by simp[eID]) (hG _ _) MG (by simp[w2]) (by simp;omega) (by simp[q2])
  clear hA
  have c0:=x3.get 0 (by decide)
  have c1:=x3.get 1 (by decide)
  have c2:=x3.get 2 (by decide)
  have q3:=x3.lim
  have w3:=x3.wf
  have m3:=x3.le
  have y0:¬0=K2.n:=by omega
  have y1:¬1=K2.n:=by omega
  have y2:¬2=K2.n:=by omega
  simp[b1,b2,w2,m0,q2,y0,y1,y2]at c0 c1 c2 q3
  have m30:0<K3.n:=by omega
  have m32:2<K3.n:=by omega
  replace p1:=((p1.bA w2 (by decide) m0).push).keep k3 x3.lim (by decide)
  replace p2:=((p2.bA w2 (by decide) m0).push).keep k3 x3.lim (by decide)
  replace p4:=((p4.bA w2 (by decide) m0).push).keep k3 x3.lim (by decide)
  replace p5:=((p5.bA w2 (by decide) m0).push).keep k3 x3.lim (by decide)
  have r1':∀o o',resolve false ((K3.set 0 o).set 2 o') 198 v1=some (eL false 1 fJ bJ):=fun o o'=>((p1.bA w3 (by decide) m30).bA w3.set (by decide) m32).resolve false (fun y _=>(tH y).1) (by decide)
  have r2':=fun o o'=>((p2.bA (o:=o) w3 (by decide) m30).bA (o:=o') w3.set (by decide) m32).resolve (n:=198) false (fun y _=>(pA y).1) (by decide)
  have r3':=fun o o'=>((p3'.bA (o:=o) w3 (by decide) m30).bA (o:=o') w3.set (by decide) m32).resolve (n:=198) false (fun y _=>(zL y).1) (by decide)
  have r4':∀o o',resolve false ((K3.set 0 o).set 2 o') 198 v4=some (eL false 7 aD ent):=fun o o'=>((p4.bA w3 (by decide) m30).bA w3.set (by decide) m32).resolve false (fun y _=>(cV y).1) (by decide)
  have r5':∀o o',resolve false ((K3.set 0 o).set 2 o') 198 v5=some (eL false 3 bL own):=fun o o'=>((p5.bA w3 (by decide) m30).bA w3.set (by decide) m32).resolve false (fun y _=>(pH y).1) (by decide)
  simp[c0,c1,c2,q3,w3,m30,m32,p3'.aU,p3'.aF,turn,r1',r2',r3',r4',r5',aL]
  simp[hR,eQ,hm,gQ.none,oN]
end Go.Dm.Tc
/-
What functions of the program compute,part 4: are two brokers the same?
-/
namespace Go.Dm.Tc
structure WJ(b:aG):Prop where
 adv:∀x∈b.aP,x.pred.length≤1000000
 ent:∀x∈b.entries,x.pred.length≤1000000
 own:∀x∈b.cW,x.pred.length≤1000000
end Go.Dm.Tc
/-
What functions of the program compute,part 5: the statements' own comparisons of brokers.
-/
namespace Go.Dm.Tc
end Go.Dm.Tc
/-
What functions of the statements' own packages compute: numbers brought into bounds;predicates Dc of numbers;a broker copied.
-/
namespace Go.Dm.Tc
def eE(n lo hi:Int):Int:=if n.tmod (hi-lo+1)<0 then lo+(n.tmod (hi-lo+1)+hi-lo+1)else lo+n.tmod (hi-lo+1)
theorem nC(n:Int){lo hi:Int}(h:lo≤hi):lo≤eE n lo hi∧eE n lo hi≤hi:=by
 have h1:0<hi-lo+1:=by omega
 have h2:=Int.tmod_lt_of_pos n h1
 have h3:-(hi-lo+1)<n.tmod (hi-lo+1):=by
  have:=Int.lt_tmod_of_pos n h1
  omega
 unfold eE
 split<;>omega
theorem s8(n lo hi:Int)(h:lo≤hi)(dM:-1000000000≤lo)(Dh:hi≤1000000000):pcF D t8 [.int .i64 n,.int .i64 lo,.int .i64 hi]=some (.int .i64 (eE n lo hi)):=by
 unfold pcF
 rw[aM _ _ _ _ (by simp[t8])]
 have h1:0<hi-lo+1:=by omega
 have h2:=Int.tmod_lt_of_pos n h1
 have h3:-(hi-lo+1)<n.tmod (hi-lo+1):=by
  have:=Int.lt_tmod_of_pos n h1
  omega
 have w1:IntKind.i64.wrap (hi-lo)=hi-lo:=bC (by omega) (by omega)
 have w2:IntKind.i64.wrap (hi-lo+1)=hi-lo+1:=bC (by omega) (by omega)
 have cY:hi-lo+1≠0:=by omega
 have hr:bY .rem (.int .i64 n) (.int .i64 (hi-lo+1))=some (.int .i64 (n.tmod (hi-lo+1))):=by simp[bY,cY]
 by_cases Ob:n.tmod (hi-lo+1)<0
 ·have w3:IntKind.i64.wrap (n.tmod (hi-lo+1)+hi)=n.tmod (hi-lo+1)+hi:=bC (by omega) (by omega)
  have w4:IntKind.i64.wrap (n.tmod (hi-lo+1)+hi-lo)=n.tmod (hi-lo+1)+hi-lo:=bC (by omega) (by omega)
  have w5:IntKind.i64.wrap (n.tmod (hi-lo+1)+hi-lo+1)=n.tmod (hi-lo+1)+hi-lo+1:=bC (by omega) (by omega)
  have w6:IntKind.i64.wrap (lo+(n.tmod (hi-lo+1)+hi-lo+1))=lo+(n.tmod (hi-lo+1)+hi-lo+1):=bC (by omega) (by omega)
  simp[t8,w1,w2,hr,Ob,w3,w4,w5,w6,eE]
 ·have w6:IntKind.i64.wrap (lo+n.tmod (hi-lo+1))=lo+n.tmod (hi-lo+1):=bC (by omega) (by omega)
  simp[t8,w1,w2,hr,Ob,w6,eE]
def rH:List (List UInt8):=[[97],[98],[99],[100],[101],[102],[103]]
def uN:List (List UInt8):=[[],[120],[120,121],[120,121,122],[120,122],[121],[121,121]]
theorem s39:pcF D t39 []=some (eL false 1 Oy rH):=by
 unfold pcF
 rw[aM _ _ _ _ (by simp[t39])]
 simp[t39,List.replicate]
 exact⟨rfl,rfl⟩
theorem s85:pcF D t85 []=some (eL false 1 Oy uN):=by
 unfold pcF
 rw[aM _ _ _ _ (by simp[t85])]
 simp[t85,List.replicate]
 exact⟨rfl,rfl⟩
def Fo(l:List Int)(i:Nat):Int:=if l.length=0 then 0 else l.getD (i % l.length) 0
theorem s41(t:Bool)(l:List Int)(i:Nat):pcF D t41 [eL t 1 fJ l,.int .i64 i]=some (.int .i64 (Fo l i)):=by
 unfold pcF
 rw[aM _ _ _ _ (by simp[t41])]
 cases l with
 | nil=>simp[t41,Fo]
 | cons x l =>
  have cY:((l.length:Int)+1)≠0:=by omega
  have hr:bY .rem (.int .i64 (i:Int)) (.int .i64 ((l.length:Int)+1))=some (.int .i64 ((i % (l.length+1):Nat):Int)):=by
   simp only[bY,if_true,if_neg cY]
   congr 2
  have aY:i % (l.length+1)<(x::l).length:=by simp;exact Nat.mod_lt _ (by omega)
  simp[t41,hr,-Int.natCast_emod,List.getElem?_eq_getElem aY,fJ,Fo,cY]
def nZ(name:List UInt8)(n:Int):iB :=
 if eE n 0 3=0∨eE n 0 3=1 then⟨name,1,eE (IntKind.i64.wrap (n.tdiv 4)) 0 9,eE (IntKind.i64.wrap (n.tdiv 4)) 0 9+eE (IntKind.i64.wrap (n.tdiv 40)) 0 9,[]⟩
 else⟨name,if eE n 0 3=2 then 2 else 3,0,0,uN.getD (eE (IntKind.i64.wrap (n.tdiv 4)) 0 6).toNat []⟩
set_option maxRecDepth 8000 in
theorem s40(name:List UInt8)(n:Int):pcF D t40 [.str name,.int .i64 n]=some (aW (nZ name n)):=by
 unfold pcF
 rw[aM _ _ _ _ (by simp[t40])]
 have w0:=s8 n 0 3 (by decide) (by decide) (by decide)
 have w1:=fun m=>s8 m 0 9 (by decide) (by decide) (by decide)
 have w2:=fun m=>s8 m 0 6 (by decide) (by decide) (by decide)
 have hq4:bY .quo (.int .i64 n) (.int .i64 4)=some (.int .i64 (IntKind.i64.wrap (n.tdiv 4))):=rfl
 have hq40:bY .quo (.int .i64 n) (.int .i64 40)=some (.int .i64 (IntKind.i64.wrap (n.tdiv 40))):=rfl
 by_cases h01:eE n 0 3=0∨eE n 0 3=1
 ·have b1:=nC (IntKind.i64.wrap (n.tdiv 4)) (show(0:Int)≤9 by decide)
  have b2:=nC (IntKind.i64.wrap (n.tdiv 40)) (show(0:Int)≤9 by decide)
  have w3:IntKind.i64.wrap (eE (IntKind.i64.wrap (n.tdiv 4)) 0 9+eE (IntKind.i64.wrap (n.tdiv 40)) 0 9)=eE (IntKind.i64.wrap (n.tdiv 4)) 0 9+eE (IntKind.i64.wrap (n.tdiv 40)) 0 9:=bC (by omega) (by omega)
  rcases h01 with h0|h1
  ·simp[t40,e8,w0,w1,hq4,hq40,h0,turn]
   rw[w3]
   simp[nZ,aW,h0]
  ·simp[t40,e8,w0,w1,hq4,hq40,h1,turn]
   rw[w3]
   simp[nZ,aW,h1]
 ·have b1:=nC (IntKind.i64.wrap (n.tdiv 4)) (show(0:Int)≤6 by decide)
  have aY:(eE (IntKind.i64.wrap (n.tdiv 4)) 0 6).toNat<uN.length:=by simp[uN];omega
  obtain⟨tx,hx⟩:∃ tx,uN[(eE (IntKind.i64.wrap (n.tdiv 4)) 0 6).toNat]?=some tx:=⟨_,List.getElem?_eq_getElem aY⟩
  have h0:¬eE n 0 3=0:=fun h=>h01 (.inl h)
  have h1:¬eE n 0 3=1:=fun h=>h01 (.inr h)
  by_cases h2:eE n 0 3=2
  ·simp[t40,e8,w0,w2,hq4,h0,h1,h2,turn,e85,s85,b1.1,hx,Oy]
   simp[nZ,aW,h0,h1,h2,hx]
  ·simp[t40,e8,w0,w2,hq4,h0,h1,h2,turn,e85,s85,b1.1,hx,Oy]
   simp[nZ,aW,h0,h1,h2,hx]
end Go.Dm.Tc
/-
What functions of the statements' own packages compute: predicates Dc of numbers.
-/
namespace Go.Dm.Tc
def vW(n:Int):Int:=IntKind.i64.wrap ((BitVec.ofInt 64 n &&& BitVec.ofInt 64 1).toNat:Int)
def OH(n:Int):Bool:=decide (vW n=1)
def fE(has vals:List Int):List (List UInt8)→Nat→aZ→aZ
 | [],_,nV=>nV
 | nm::r,i,nV=>if i<has.length∧OH (has.getD i 0)=true∧nV.length<5 then fE has vals r (i+1) (nV++[nZ nm (Fo vals i)])else fE has vals r (i+1) nV
def Gc(has vals:List Int):aZ:=fE has vals rH 0 []
theorem Am(n:Int):bY .and (.int .i64 n) (.int .i64 1)=some (.int .i64 (vW n)):=rfl
theorem DA{lo:Nat}{h:aA}{v:DV}{ety:Nat}{ys:List iB}(w:Own lo h v ety 5 (ys.map aW)):gV (some (v,h))=some (bO ys):=w.out (fun y _=>(pI y).1.mono (by decide)) (fun y _=>(pI y).2.mono (by decide)) (k:=22) (by decide)
set_option maxRecDepth 8000 in
theorem l9(th tv:Bool)(has vals:List Int)(tp:Nat)(h0:aA)(g0:h0.get 0=some (.arr tp 2 [.agg [eL th 1 fJ has,eL tv 1 fJ vals]] (some 1)))(aS:h0.lim=0)(hl:has.length≤9223372036854775807) :
  ∀(rest:List (List UInt8)) (nV:aZ) (i:Nat) (f:dK) (h:aA),rH.drop i=rest→nV.length≤i→f 1=.ptr 0 2 0 0→f 6=eL false 1 Oy rH→f 7=.int .i64 7→f 8=.int .i64 i→Own 1 h (f 3) 98 5 (nV.map aW)→Ext 1 h0 h →
  gV (fin [.t 2] (run D 43 [.block 0,.seq NJ] (.loop HR) f h))=some (bO (fE has vals rest i nV)):=by
 intro rest
 induction rest with
 | nil =>
  intro nV i f h hd ha h1 h6 h7 h8 ho hx
  have hi:=fY hd
  have:¬((i:Int)<7):=by simp[rH]at hi;omega
  rw[aO HR.eq_1]
  simp[NJ,h7,h8,this,fE]
  exact DA ho
 | cons nm rest ih =>
  intro nV i f h hd ha h1 h6 h7 h8 ho hx
  obtain⟨hi,he,nJ⟩:=iI hd
  have hi7:i<7:=by simpa[rH]using hi
  have aY:(i:Int)<7:=by omega
  have Lc:=(hx.get 0 (by decide)).trans g0
  have w1:IntKind.i64.wrap ((i:Int)+1)=(i:Int)+1:=bC (by omega) (by omega)
  have hpk:=s41 tv vals i
  have cB:lenV h 1 (f 3)=some (.int .i64 (nV.length:Int)):=by simpa using ho.lenV
  rw[aO HR.eq_1]
  by_cases c1:i<has.length
  ·obtain⟨b,hb⟩:∃ b,has[i]=b:=⟨_,rfl⟩
   have Ip:has.getD i 0=b:=by rw[List.getD_eq_getElem?_getD,List.getElem?_eq_getElem c1,hb];rfl
   by_cases c2:vW b=1
   ·by_cases c3:nV.length<5
    ·have c3':(nV.length:Int)<5:=by omega
     have hm:fE has vals (nm::rest) i nV=fE has vals rest (i+1) (nV++[nZ nm (Fo vals i)]):=by simp only[fE];rw[if_pos ⟨c1,by rw[Ip];simp[OH,c2],c3⟩]
     rw[hm]
     simp[h1,h6,h7,h8,aY,Lc,hi,he,Oy,fJ,c1,hb,Am,c2,cB,c3',e41,hpk,e40,s40,aW]
     generalize hA:bF _ _ _ _ _ _=A
     obtain⟨v',h',rfl,Tf,Im⟩:=ho.push.append hx.push.wf hx.push.le (by rw[hx.push.lim,aS];omega) hA (by simp;omega) (by decide)
     simp[w1,h8]
     refine ih (nV++[nZ nm (Fo vals i)]) (i+1) _ h' nJ (by simp;omega) ?_ ?_ ?_ ?_ ?_ (hx.push.trans Im)<;>simp[h1,h6,h7]
     simpa[aW]using Tf
    ·have c3':¬(nV.length:Int)<5:=by omega
     have hm:fE has vals (nm::rest) i nV=fE has vals rest (i+1) nV:=by simp only[fE];rw[if_neg (fun q=>c3 q.2.2)]
     rw[hm]
     simp[h1,h6,h7,h8,aY,Lc,hi,he,Oy,fJ,c1,hb,Am,c2,cB,c3',w1]
     refine ih nV (i+1) _ h nJ (by omega) ?_ ?_ ?_ ?_ ?_ hx<;>simp[h1,h6,h7,ho]
   ·have hm:fE has vals (nm::rest) i nV=fE has vals rest (i+1) nV:=by simp only[fE];rw[if_neg (fun q=>c2 (by rw[Ip]at q;simpa[OH]using q.2.1))]
    rw[hm]
    simp[h1,h6,h7,h8,aY,Lc,hi,he,Oy,fJ,c1,hb,Am,c2,w1]
    refine ih nV (i+1) _ h nJ (by omega) ?_ ?_ ?_ ?_ ?_ hx<;>simp[h1,h6,h7,ho]
  ·have c1':¬((i:Int)<has.length):=by omega
   have hm:fE has vals (nm::rest) i nV=fE has vals rest (i+1) nV:=by simp only[fE];rw[if_neg (fun q=>c1 q.1)]
   rw[hm]
   simp[h1,h6,h7,h8,aY,Lc,hi,he,Oy,c1,w1]
   refine ih nV (i+1) _ h nJ (by omega) ?_ ?_ ?_ ?_ ?_ hx<;>simp[h1,h6,h7,ho]
theorem s9(th tv:Bool)(has vals:List Int)(hl:has.length≤9223372036854775807) :
  pcF D t9 [.agg [eL th 1 fJ has,eL tv 1 fJ vals]]=some (bO (Gc has vals)):=by
 unfold pcF
 rw[aM _ _ _ _ (by simp[t9])]
 simp[t9,e39,s39]
 refine l9 th tv has vals 40 _ ?_ ?_ hl rH [] 0 _ _ rfl (by simp) ?_ ?_ ?_ ?_ ?_ (Ext.refl ?_ ?_)<;>simp[rH]
 exact .start _ _ _ _
end Go.Dm.Tc
/-
What functions of the statements' own packages compute: a broker copied;the reference's orders and searches.
-/
namespace Go.Dm.Tc
end Go.Dm.Tc
/-
What the reference's functions compute,part 1: orders,searches,an advertisement learned.
-/
namespace Go.Dm.Tc
end Go.Dm.Tc
/-
What the reference's functions compute,part 2: an advertisement learned.
-/
namespace Go.Dm.Tc
end Go.Dm.Tc
/-
What functions of the program compute,part 9: what may be a name,a constraint,a predicate.
-/
namespace Go.Dm.Tc
def lT(s:List UInt8):Bool:=s.all fun b=>decide (97≤b.toNat) && decide (b.toNat≤122)
def xV(s:List UInt8):Bool:=lT s && !decide (s=[]) && decide (s.length≤12)
theorem TF(xs:List UInt8)(hl:xs.length≤1000000) :
  ∀(rest:List UInt8) (i:Nat) (f:dK) (h:aA),xs.drop i=rest→f 0=.str xs→f 5=.int .i64 xs.length→f 6=.int .i64 i →
  gV (fin [.t 2] (run D 27 [.block 0,.seq Lx] (.loop Lw) f h))=some (.bool (lT rest && !decide (xs=[]) && decide (xs.length≤12))):=by
 intro rest
 induction rest with
 | nil =>
  intro i f h hd h0 h5 h6
  have hi:=fY hd
  have:¬(i<xs.length):=by omega
  rw[aO Lw.eq_1]
  by_cases hx:xs=[]
  ·subst hx
   have h0i:¬(i:Int)<0:=by omega
   simp[Lx,h0,h5,h6,h0i,lT]
  ·have hb:(xs == ([]:List UInt8))=false:=by cases xs<;>simp_all
   simp[Lx,h0,h5,h6,this,hx,hb,lT]
   omega
 | cons e rest ih =>
  intro i f h hd h0 h5 h6
  obtain⟨hi,he,nJ⟩:=iI hd
  have hq:∀k,pN (.str xs) (.int k (i:Int))=some (.int .u8 e.toNat):=fun k=>Jl xs k i (by rw[List.getElem?_eq_getElem hi,he])
  rw[aO Lw.eq_1]
  by_cases h1:e.toNat<97
  ·have Zf:(e.toNat:Int)<97:=by omega
   have cM:lT (e::rest)=false:=by
    have:¬97≤e.toNat:=by omega
    simp only[lT,List.all_cons,decide_eq_false this,Bool.false_and]
   simp[h0,h5,h6,hi,hq,Zf,cM]
  ·have Zf:¬(e.toNat:Int)<97:=by omega
   by_cases h2:122<e.toNat
   ·have h2':(122:Int)<e.toNat:=by omega
    have cM:lT (e::rest)=false:=by
     have:¬e.toNat≤122:=by omega
     simp only[lT,List.all_cons,decide_eq_false this,Bool.and_false,Bool.false_and]
    simp[h0,h5,h6,hi,hq,Zf,h2',cM]
   ·have h2':¬(122:Int)<e.toNat:=by omega
    have cM:lT (e::rest)=lT rest:=by
     have q1:97≤e.toNat:=by omega
     have q2:e.toNat≤122:=by omega
     simp only[lT,List.all_cons,decide_eq_true q1,decide_eq_true q2,Bool.true_and]
    simp[h0,h5,h6,hi,hq,Zf,h2',cM]
    rw[bC (by omega) (by omega)]
    refine(ih (i+1) _ h nJ ?_ ?_ ?_).trans ?_<;>simp[h0,h5]
theorem Fb(xs:List UInt8)(hl:xs.length≤1000000):pcF D L5 [.str xs]=some (.bool (xV xs)):=by
 unfold pcF
 rw[aM _ _ _ _ (by simp[L5])]
 simp[L5]
 refine(TF xs hl xs 0 _ _ rfl ?_ ?_ ?_).trans ?_<;>simp[xV]
def cS(c : iB) : Bool :=
  xV c.name &&
    (if c.kind = 1 then decide (c.lo ≤ c.hi) && decide (c.text = [])
     else if c.kind = 3 then !decide (c.text.length = 12) && (decide (c.lo = 0) && decide (c.hi = 0) && decide (c.text.length ≤ 12))
     else if c.kind = 2 then decide (c.lo = 0) && decide (c.hi = 0) && decide (c.text.length ≤ 12)
     else false)
theorem SR(nm:List UInt8)(k lo hi:Int)(tx:List UInt8)(hl:nm.length≤1000000) :
  pcF D wV [.agg [.str nm,.int .i64 k,.int .i64 lo,.int .i64 hi,.str tx]]=some (.bool (cS ⟨nm,k,lo,hi,tx⟩)):=by
 unfold pcF
 rw[aM _ _ _ _ (by simp[wV])]
 cases hn:xV nm with
 | false=>simp[wV,Hn,Fb,hl,hn,cS]
 | true =>
  have cB:∀n:Nat,((tx.length:Int) == (n:Int))=decide (tx.length=n):=fun n=>by
   by_cases h:tx.length=n
   ·simp[h]
   ·have h':¬(tx.length:Int)=n:=by omega
    simp[h,h']
  have Gq:(tx == ([]:List UInt8))=decide (tx=[]):=by cases tx<;>simp
  by_cases k1:k=1
  ·subst k1
   by_cases h1:lo≤hi
   ·simp[wV,Hn,Fb,hl,hn,cS,h1,Gq]
   ·simp[wV,Hn,Fb,hl,hn,cS,h1,Gq]
  ·by_cases k3:k=3
   ·subst k3
    by_cases MP:tx.length=12
    ·simp[wV,Hn,Fb,hl,hn,cS,MP]
    ·have h12':¬(tx.length:Int)=12:=by omega
     by_cases dM:lo=0
     ·by_cases Dh:hi=0
      ·simp[wV,Hn,Fb,hl,hn,cS,MP,h12',dM,Dh]
       omega
      ·simp[wV,Hn,Fb,hl,hn,cS,MP,h12',dM,Dh]
     ·simp[wV,Hn,Fb,hl,hn,cS,MP,h12',dM]
   ·by_cases k2:k=2
    ·subst k2
     by_cases dM:lo=0
     ·by_cases Dh:hi=0
      ·simp[wV,Hn,Fb,hl,hn,cS,dM,Dh]
       omega
      ·simp[wV,Hn,Fb,hl,hn,cS,dM,Dh]
     ·simp[wV,Hn,Fb,hl,hn,cS,dM]
    ·simp[wV,Hn,Fb,hl,hn,cS,k1,k2,k3]
def kG:Option (List UInt8)→aZ→Bool
 | _,[]=>true
 | prev,c::r=>cS c && (match prev with|none=>true|some n=>Go.Op.bytesLess n c.name) && kG (some c.name) r
def rF(p:aZ):Bool:=kG none p && decide (p.length≤5)
def Po(p:aZ):Prop:=p.length≤1000000∧∀c∈p,c.name.length≤1000000
end Go.Dm.Tc
/-
What functions of the program compute,part 10: is a broker right?
-/
namespace Go.Dm.Tc
def nQ(b:aG)(n:Int):Bool:=decide (n=-1) || b.bJ.contains n
def RR(t1 s1 t2 s2:ID):Int:=orI (cQ t1 t2) (cQ s1 s2)
def ltE(x y:aX):Bool:=decide (RR x.tree x.sub y.tree y.sub<0)
theorem pJ{α:Type}{key:α→ID}:∀{l:List α},eG (l.map key)→kY (fun x y=>qC (key x) (key y)) l=true
 | [],_=>rfl
 | [a],_=>rfl
 | a::b::r,h=>by
  unfold eG at h
  rw[List.map_cons,List.pairwise_cons]at h
  simp only[kY,Bool.and_eq_true]
  refine⟨?_,pJ (l:=b::r) h.2⟩
  have:=h.1 (key b) (by simp)
  simpa[qC]using this
def lP(b:aG)(e:aX):Bool :=
 match b.aP.find? (fun a=>a.id=e.tree)with
 | none=>false
 | some a=>nQ b e.jW && (!decide (e.jW=a.dC) || decide (a.dC=-1)) && !(e.up && decide (a.dC=-1)) && rF e.pred
end Go.Dm.Tc
/-
What functions of the program compute,part 11: is a broker right? All of it.
-/
namespace Go.Dm.Tc
structure WK(b:aG):Prop where
 adv:∀x∈b.aP,Po x.pred
 ent:∀x∈b.entries,Po x.pred
 own:∀x∈b.cW,Po x.pred
def uU(b:aG)(a:bZ):Bool:=decide (a.id∈b.seen) && nQ b a.dC && rF a.pred
def fQ(t:gQ)(b:aG):List DV:=[.int .i64 b.me,eL t.bJ 1 fJ b.bJ,eL t.aP 4 aH b.aP,eL t.seen 2 eID b.seen,eL t.entries 7 aD b.entries,eL t.cW 3 bL b.cW]
def Bd(b:aG):Bool :=
 kY (fun x y=>decide (x<y)) b.bJ && kY (fun x y=>qC x y) b.seen && kY (fun x y:bZ=>qC x.id y.id) b.aP && kY (fun x y:gT=>qC x.id y.id) b.cW && kY ltE b.entries
def Na(b:aG):Bool :=
 Bd b && !(b.aP.any fun a=>!uU b a) && !(b.entries.any fun e=>!lP b e) && !(b.cW.any fun o=>!rF o.pred)
end Go.Dm.Tc
/-
What functions of the program compute,part 12: an advertisement forgotten.
-/
namespace Go.Dm.Tc
def sW{α:Type}(key:α→ID)(x:ID)(l:List α):List α:=l.filter fun a=>!decide (key a=x)
theorem Vq{α:Type}(key:α→ID){l:List α}(hr:eG (l.map key)){x:ID}{i:Nat}{a:α}(hi:l[i]?=some a)(ha:key a=x):l.take i++l.drop (i+1)=sW key x l:=by
 have aY:i<l.length:=by
  by_cases h:i<l.length
  ·exact h
  ·rw[List.getElem?_eq_none (by omega)]at hi;cases hi
 have La:l[i]=a:=by rw[List.getElem?_eq_getElem aY]at hi;exact Option.some.inj hi
 have cY:∀j (hj:j<l.length),j≠i→key l[j]≠x:=by
  intro j hj hji e
  rcases Nat.lt_or_gt_of_ne hji with h|h
  ·have:=List.pairwise_iff_getElem.1 hr j i (by simpa using hj) (by simpa using aY) h
   simp only[List.getElem_map,La,ha,e]at this
   rw[iA]at this;omega
  ·have:=List.pairwise_iff_getElem.1 hr i j (by simpa using aY) (by simpa using hj) h
   simp only[List.getElem_map,La,ha,e]at this
   rw[iA]at this;omega
 have h1:(l.take i).filter (fun a=>!decide (key a=x))=l.take i:=by
  rw[List.filter_eq_self]
  intro y hy
  obtain⟨j,hj,rfl⟩:=List.mem_iff_getElem.1 hy
  rw[List.length_take]at hj
  have:=cY j (by omega) (by omega)
  simpa using this
 have h2:(l.drop (i+1)).filter (fun a=>!decide (key a=x))=l.drop (i+1):=by
  rw[List.filter_eq_self]
  intro y hy
  obtain⟨j,hj,rfl⟩:=List.mem_iff_getElem.1 hy
  rw[List.length_drop]at hj
  have:=cY (i+1+j) (by omega) (by omega)
  simpa using this
 have h3:(l.drop i).filter (fun a=>!decide (key a=x))=l.drop (i+1):=by
  rw[List.drop_eq_getElem_cons aY,List.filter_cons,La,ha,h2];simp
 calc l.take i++l.drop (i+1)=(l.take i++l.drop i).filter (fun a=>!decide (key a=x)):=by rw[List.filter_append,h1,h3]
  _=_:=by rw[List.take_append_drop];rfl
end Go.Dm.Tc
/-
What the reference's functions compute,part 3: an advertisement forgotten.
-/
namespace Go.Dm.Tc
end Go.Dm.Tc
/-
Calls that let go of rows,brought into form;closed runs.
-/
namespace Go.Dm.Tc
def H9:Option (DV×aA)→(aA→Option (List DV×aA))→Option (List DV×aA)
 | some (v,h),k=>match k h with|some (r,h')=>some (v::r,h')|none=>none
 | none,_=>none
def MT(v:DV):Option (List DV×aA)→Option (List DV×aA)
 | some (r,h)=>some (v::r,h)
 | none=>none
def RZ:Option (List DV×aA)→Option (DV×aA)
 | some (r,h)=>some (.agg r,h)
 | none=>none
theorem yF(v:DV)(r:List DV)(h:aA):MT v (some (r,h))=some (v::r,h):=_root_.id rfl
theorem Bw(r:List DV)(h:aA):RZ (some (r,h))=some (.agg r,h):=_root_.id rfl
theorem yG(v:DV)(h:aA)(k:aA→Option (List DV×aA)):H9 (some (v,h)) k=MT v (k h):=by
 simp only[H9];cases k h<;>rfl
theorem Ge(f:aA→DV→Option (DV×aA))(h:aA):tJ f h []=some ([],h):=_root_.id rfl
theorem Bh(f:aA→DV→Option (DV×aA))(h:aA)(v:DV)(r:List DV):tJ f h (v::r)=H9 (f h v) (fun h1=>tJ f h1 r):=by
 simp only[tJ,H9]
 cases f h v with
 | none=>rfl
 | some p=>rfl
theorem On(h:aA)(cs:List DV):gP h (.agg cs)=RZ (tJ gI h cs):=by
 simp only[gP];cases tJ gI h cs<;>rfl
theorem G8(h:aA)(k:IntKind)(n:Int):gP h (.int k n)=some (.int k n,h):=_root_.id rfl
theorem Zh{α:Type}(h:aA)(t:Bool)(sz:Nat)(e:α→DV)(xs:List α):gP h (eL t sz e xs)=some (eL t sz e xs,h):=by cases xs<;>rfl
theorem Tq(h:aA)(p:aZ):gP h (bO p)=some (bO p,h):=Zh ..
theorem G7(h:aA)(s:List UInt8):gP h (.str s)=some (.str s,h):=_root_.id rfl
theorem Zg(h:aA)(k:IntKind)(n:Int):gI h (.int k n)=some (.int k n,h):=_root_.id rfl
theorem G6(h:aA)(b:Bool):gI h (.bool b)=some (.bool b,h):=_root_.id rfl
theorem EV(h:aA):gI h .nsl=some (.nsl,h):=_root_.id rfl
theorem G5{α:Type}(h:aA)(t:Bool)(sz:Nat)(e:α→DV)(xs:List α):gI h (eL t sz e xs)=some (eL t sz e xs,h):=by cases xs<;>rfl
theorem G4(h:aA)(p:aZ):gI h (bO p)=some (bO p,h):=G5 ..
theorem EW(h:aA)(t:Bool)(sz:Nat)(xs:List DV):gI h (.isl t sz xs)=some (.isl t sz xs,h):=_root_.id rfl
attribute [simp] yF Bw yG Ge Bh On G8 Zh Tq G7 Zg G6 EV G5 G4 EW A8
theorem nn1(n:Nat):(n=n+1)=False:=eq_false (by omega)
theorem mm1(n:Nat):(n+1=n)=False:=eq_false (by omega)
theorem nn2(n:Nat):(n=n+1+1)=False:=eq_false (by omega)
theorem mm2(n:Nat):(n+1+1=n)=False:=eq_false (by omega)
theorem nn3(n:Nat):(n=n+1+1+1)=False:=eq_false (by omega)
theorem mm3(n:Nat):(n+1+1+1=n)=False:=eq_false (by omega)
theorem nn4(n:Nat):(n=n+1+1+1+1)=False:=eq_false (by omega)
theorem mm4(n:Nat):(n+1+1+1+1=n)=False:=eq_false (by omega)
theorem nn5(n:Nat):(n=n+1+1+1+1+1)=False:=eq_false (by omega)
theorem mm5(n:Nat):(n+1+1+1+1+1=n)=False:=eq_false (by omega)
theorem nn6(n:Nat):(n=n+1+1+1+1+1+1)=False:=eq_false (by omega)
theorem mm6(n:Nat):(n+1+1+1+1+1+1=n)=False:=eq_false (by omega)
theorem nn7(n:Nat):(n=n+1+1+1+1+1+1+1)=False:=eq_false (by omega)
theorem mm7(n:Nat):(n+1+1+1+1+1+1+1=n)=False:=eq_false (by omega)
theorem nn8(n:Nat):(n=n+1+1+1+1+1+1+1+1)=False:=eq_false (by omega)
theorem mm8(n:Nat):(n+1+1+1+1+1+1+1+1=n)=False:=eq_false (by omega)
theorem nn9(n:Nat):(n=n+1+1+1+1+1+1+1+1+1)=False:=eq_false (by omega)
theorem mm9(n:Nat):(n+1+1+1+1+1+1+1+1+1=n)=False:=eq_false (by omega)
theorem TA(n:Nat):(n=n+1+1+1+1+1+1+1+1+1+1)=False:=eq_false (by omega)
theorem TD(n:Nat):(n+1+1+1+1+1+1+1+1+1+1=n)=False:=eq_false (by omega)
theorem SZ(n:Nat):(n=n+1+1+1+1+1+1+1+1+1+1+1)=False:=eq_false (by omega)
theorem TC(n:Nat):(n+1+1+1+1+1+1+1+1+1+1+1=n)=False:=eq_false (by omega)
theorem SY(n:Nat):(n=n+1+1+1+1+1+1+1+1+1+1+1+1)=False:=eq_false (by omega)
theorem TB(n:Nat):(n+1+1+1+1+1+1+1+1+1+1+1+1=n)=False:=eq_false (by omega)
attribute [simp] nn1 mm1 nn2 mm2 nn3 mm3 nn4 mm4 nn5 mm5 nn6 mm6 nn7 mm7 nn8 mm8 nn9 mm9 TA TD SZ TC SY TB
theorem CY{k n:Nat}{df:aV}{args ds:List DV}{d:DV}(he:∀args h,fc D k args h=sN D df h (args.mapM (resolve true h cG)))(hd:args.mapM (resolve true qT cG)=some ds)(hr:Uv D n k args qT=some (d,qT)):pcF D df ds=some d:=by
 have h1:fc D k args qT=some (d,qT):=Ea.2 ⟨n,hr⟩
 rw[he,hd,uA]at h1
 cases h2:pcF D df ds with
 | none=>rw[h2]at h1;cases h1
 | some x=>rw[h2,yJ]at h1;injection h1 with h1;injection h1 with h1;rw[h1]
theorem NY:pcF D t7 [.int .i64 0,.isl true 1 [.int .i64 1,.int .i64 2,.int .i64 3]]=some (aQ .none ⟨0,[1,2,3],[],[],[],[]⟩):=CY (n:=2000) (args:=[.int .i64 0,.isl true 1 [.int .i64 1,.int .i64 2,.int .i64 3]]) e7 rfl (by kernel_rfl)
end Go.Dm.Tc
/-
Plain laws,part 1: predicates Dc of numbers are right;rows that rise stay so.
-/
namespace Go.Dm.Tc
theorem Nq:∀nm∈rH,xV nm=true∧nm.length≤1000000:=by decide
theorem K8:∀i:Nat,(uN.getD i []).length≤3:=by
 intro i
 by_cases h:i<uN.length
 ·have:∀x∈uN,x.length≤3:=by decide
  rw[List.getD_eq_getElem?_getD,List.getElem?_eq_getElem h]
  exact this _ (List.getElem_mem h)
 ·rw[List.getD_eq_getElem?_getD,List.getElem?_eq_none (by omega)]
  simp
theorem Ck(nm:List UInt8)(n:Int):(nZ nm n).name=nm:=by unfold nZ;split<;>rfl
theorem Nu{nm:List UInt8}(h:xV nm=true)(n:Int):cS (nZ nm n)=true:=by
 unfold nZ
 split
 ·have b1:=nC (IntKind.i64.wrap (n.tdiv 40)) (show(0:Int)≤9 by decide)
  simp only[cS,h,Bool.true_and,if_true]
  simp
  omega
 ·have ht:=K8 (eE (IntKind.i64.wrap (n.tdiv 4)) 0 6).toNat
  split
  ·simp only[cS,h,Bool.true_and]
   simp
   simp at ht
   omega
  ·simp only[cS,h,Bool.true_and]
   simp
   simp at ht
   omega
theorem Ch{c:iB}(hc:cS c=true):∀(nV:aZ) (prev:Option (List UInt8)),kG prev nV=true→(∀d∈nV,Go.Op.bytesLess d.name c.name=true)→(∀n,prev=some n→Go.Op.bytesLess n c.name=true)→kG prev (nV++[c])=true
 | [],prev,_,_,hp=>by
  simp only[List.nil_append,kG,hc,Bool.true_and,Bool.and_true]
  cases prev with
  | none=>rfl
  | some n=>exact hp n rfl
 | d::r,prev,h,hd,hp=>by
  simp only[kG,Bool.and_eq_true]at h
  simp only[List.cons_append,kG,Bool.and_eq_true]
  exact⟨h.1,Ch hc r (some d.name) h.2 (fun x hx=>hd x (List.mem_cons_of_mem _ hx)) (fun n hn=>by injection hn with hn;rw[←hn];exact hd d (List.mem_cons_self ..))⟩
theorem rI(has vals:List Int):∀(rest:List (List UInt8)) (i:Nat) (nV:aZ),(∀nm∈rest,xV nm=true∧nm.length≤1000000)→rest.Pairwise (fun a b=>Go.Op.bytesLess a b=true)→kG none nV=true→nV.length≤5 →
  (∀d∈nV,d.name.length≤1000000∧∀nm∈rest,Go.Op.bytesLess d.name nm=true)→kG none (fE has vals rest i nV)=true∧(fE has vals rest i nV).length≤5∧∀d∈fE has vals rest i nV,d.name.length≤1000000
 | [],_,nV,_,_,h,hl,hd=>⟨h,hl,fun d hx=>(hd d hx).1⟩
 | nm::r,i,nV,hn,hp,h,hl,hd=>by
  rw[List.pairwise_cons]at hp
  simp only[fE]
  split
  ·rename_i hc
   have hr:=Nu (hn nm (List.mem_cons_self ..)).1 (Fo vals i)
   refine rI has vals r (i+1) _ (fun x hx=>hn x (List.mem_cons_of_mem _ hx)) hp.2 (Ch hr nV none h (fun d hx=>by rw[Ck];exact(hd d hx).2 nm (List.mem_cons_self ..)) (fun n e=>by cases e)) (by simp;omega) ?_
   intro d hx
   rcases List.mem_append.1 hx with hx|hx
   ·exact⟨(hd d hx).1,fun y hy=>(hd d hx).2 y (List.mem_cons_of_mem _ hy)⟩
   ·simp only[List.mem_singleton]at hx
    subst hx
    rw[Ck]
    exact⟨(hn nm (List.mem_cons_self ..)).2,fun y hy=>hp.1 y hy⟩
  ·exact rI has vals r (i+1) nV (fun x hx=>hn x (List.mem_cons_of_mem _ hx)) hp.2 h hl (fun d hx=>⟨(hd d hx).1,fun y hy=>(hd d hx).2 y (List.mem_cons_of_mem _ hy)⟩)
structure bM(p:aZ):Prop where
 right:rF p=true
 names:Po p
 len:p.length≤5
theorem Kt(has vals:List Int):bM (Gc has vals):=by
 obtain⟨h1,h2,h3⟩:=rI has vals rH 0 [] Nq (by decide) rfl (by simp) (by simp)
 exact⟨by unfold rF;rw[show kG none (Gc has vals)=true from h1,Bool.true_and];exact decide_eq_true h2,⟨Nat.le_trans h2 (by decide),h3⟩,h2⟩
theorem mV{α:Type}(key:α→ID)(a:α){l:List α}(h:eG (l.map key))(hn:∀b∈l,key b≠key a):eG ((oN key a l).map key):=by
 obtain⟨r1,r2⟩:=Ff key h (key a)
 have hp:l.Pairwise fun x y=>cQ (key x) (key y)<0:=by unfold eG at h;exact List.pairwise_map.1 h
 unfold eG oN
 rw[List.pairwise_map,List.pairwise_append,List.pairwise_cons]
 generalize hk:bG (fun b=>cQ (key b) (key a)) l=k at *
 have pS:∀b∈l.take k,cQ (key b) (key a)<0:=by
  intro b hb
  obtain⟨i,hi,rfl⟩:=List.mem_iff_getElem.1 hb
  rw[List.getElem_take]
  rw[List.length_take]at hi
  exact r1 i (by omega) (by omega)
 have jP:∀b∈l.drop k,cQ (key a) (key b)<0:=by
  intro b hb
  obtain⟨i,hi,rfl⟩:=List.mem_iff_getElem.1 hb
  rw[List.length_drop]at hi
  rw[List.getElem_drop]
  have:=r2 (k+i) (by omega) (by omega)
  rcases W7 (key l[k+i]) (key a)with h1|h1|h1
  ·exact absurd h1 this
  ·exact absurd h1 (hn _ (List.getElem_mem _))
  ·exact h1
 refine⟨hp.sublist (List.take_sublist ..),⟨fun b hb=>jP b hb,hp.sublist (List.drop_sublist ..)⟩,?_⟩
 intro x hx y hy
 rcases List.mem_cons.1 hy with rfl|hy
 ·exact pS x hx
 ·exact Cw (pS x hx) (jP y hy)
theorem qR{α:Type}(key:α→ID)(a:α)(l:List α)(b:α):b∈oN key a l↔b=a∨b∈l:=by
 unfold oN
 rw[List.mem_append,List.mem_cons]
 constructor
 ·rintro(h|h|h)
  ·exact .inr (List.mem_of_mem_take h)
  ·exact .inl h
  ·exact .inr (List.mem_of_mem_drop h)
 ·rintro(h|h)
  ·exact .inr (.inl h)
  ·rw[←List.take_append_drop (bG (fun b=>cQ (key b) (key a)) l) l,List.mem_append]at h
   exact h.elim .inl fun h=>.inr (.inr h)
theorem Du{α:Type}(key:α→ID)(a:α)(l:List α):(oN key a l).length=l.length+1:=by
 unfold oN
 rw[List.length_append,List.length_cons,List.length_take,List.length_drop]
 have:=hG (fun b=>cQ (key b) (key a)) l
 omega
theorem Ed{α:Type}(key:α→ID){l:List α}(x:ID)(h:eG (l.map key)):eG ((sW key x l).map key):=by
 unfold eG at *
 rw[List.pairwise_map]at *
 exact h.sublist (List.filter_sublist ..)
end Go.Dm.Tc
/-
Plain laws,part 2: a broker that was told of advertisements alone;sets of IDs as maps.
-/
namespace Go.Dm.Tc
structure Dp(m0:Int)(nr:List Int)(b:aG)(n:Nat):Prop where
 me:b.me=m0
 bJ:b.bJ=nr
 ent:b.entries=[]
 own:b.cW=[]
 ra:eG (b.aP.map (·.id))
 rs:eG b.seen
 la:b.aP.length≤n
 ls:b.seen.length≤n
 sub:∀a∈b.aP,a.id∈b.seen
 par:∀a∈b.aP,a.dC=-1∨a.dC∈nr
 prd:∀a∈b.aP,bM a.pred
section
variable {me:Int} {bJ:List Int} {b:aG} {n:Nat}
theorem Dp.start(me:Int)(bJ:List Int):Dp me bJ ⟨me,bJ,[],[],[],[]⟩ 0:=⟨rfl,rfl,rfl,rfl,List.Pairwise.nil,List.Pairwise.nil,Nat.le_refl _,Nat.le_refl _,fun a h=>(by cases h),fun a h=>(by cases h),fun a h=>(by cases h)⟩
theorem Dp.mono{m:Nat}(h:Dp me bJ b n)(hm:n≤m):Dp me bJ b m:={h with la:=Nat.le_trans h.la hm,ls:=Nat.le_trans h.ls hm}
theorem Dp.learn(h:Dp me bJ b n)(a:bZ)(hp:a.dC=-1∨a.dC∈bJ)(hr:bM a.pred):Dp me bJ (eQ b a).1 (n+1):=by
 unfold eQ
 split
 ·exact h.mono (Nat.le_succ n)
 ·rename_i hm
  refine⟨h.me,h.bJ,h.ent,h.own,?_,?_,?_,?_,?_,?_,?_⟩
  ·exact mV (fun a:bZ=>a.id) a h.ra (fun b hb e=>hm (by rw[←e];exact h.sub b hb))
  ·have:=mV (fun x:ID=>x) a.id (l:=b.seen) (by simpa using h.rs) (fun b hb e=>hm (by rw[←e];exact hb))
   simpa using this
  ·simp only[Du];exact Nat.succ_le_succ h.la
  ·simp only[Du];exact Nat.succ_le_succ h.ls
  ·intro x hx
   rw[qR]at hx ⊢
   rcases hx with rfl|hx
   ·exact .inl rfl
   ·exact .inr (h.sub x hx)
  ·intro x hx
   rw[qR]at hx
   rcases hx with rfl|hx
   ·exact hp
   ·exact h.par x hx
  ·intro x hx
   rw[qR]at hx
   rcases hx with rfl|hx
   ·exact hr
   ·exact h.prd x hx
theorem Dp.sized(h:Dp me bJ b n)(hn:n≤1000)(hl:bJ.length≤1000):mK b:=⟨by rw[h.bJ];omega,by have:=h.la;omega,by have:=h.ls;omega,by rw[h.ent];decide,by rw[h.own];decide⟩
theorem Dp.right(h:Dp me bJ b n)(hn:kY (fun x y=>decide (x<y)) bJ=true):Na b=true:=by
 unfold Na Bd
 rw[h.bJ,h.ent,h.own,pJ (key:=fun a:bZ=>a.id) h.ra,show kY (fun x y=>qC x y) b.seen=true from pJ (key:=fun a:ID=>a) (by simpa using h.rs),hn]
 have:(b.aP.any fun a=>!uU b a)=false:=by
  rw[List.any_eq_false]
  intro a ha
  have h1:=h.sub a ha
  have h2:=h.par a ha
  have h3:=(h.prd a ha).right
  have h4:nQ b a.dC=true:=by
   unfold nQ
   rw[h.bJ]
   rcases h2 with e|e
   ·simp[e]
   ·simp[e]
  simp[uU,h1,h3,h4]
 rw[this]
 rfl
end
def TO(ks:List ID):List (DV×DV):=ks.map fun x=>(.agg [.int .i64 x.bS,.int .i64 x.seq],.bool true)
theorem LH(c d:Int)(y:ID):fO (.agg [1,1]) (.agg [.int .i64 c,.int .i64 d]) (.agg [.int .i64 y.bS,.int .i64 y.seq])=some (decide ((⟨c,d⟩:ID)=y)):=by
 cases y with|mk a b=>by_cases h1:c=a<;>by_cases h2:d=b<;>simp[h1,h2]
def FF:Option DO→Option (List (DV×DV))
 | some (.mp es)=>some es
 | _=>none
theorem iH(h:aA)(id:Nat):vL h (.map id)=FF (h.get id):=by
 simp only[vL,FF]
 cases h.get id with
 | none=>rfl
 | some o=>cases o<;>rfl
theorem lL(es:List (DV×DV)):FF (some (.mp es))=some es:=_root_.id rfl
def J8(h:aA)(q:EqT)(id:Nat)(k x:DV):Option DO→Option aA
 | some (.mp es)=>if h.lim≤id∧(fO q k k).isSome=true then
   match lY q k es with
   | some (some (i,_))=>some (h.set id (.mp (es.set i (k,x))))
   | some none=>some (h.set id (.mp (es++[(k,x)])))
   | none=>none
  else none
 | _=>none
theorem Bx(h:aA)(q:EqT)(id:Nat)(k x:DV):yR h q (.map id) k x=J8 h q id k x (h.get id):=by
 simp only[yR,J8]
 cases h.get id with
 | none=>rfl
 | some o=>cases o<;>rfl
theorem EE(h:aA)(id:Nat):lenV h 2 (.map id)=(FF (h.get id)).map fun es=>.int .i64 es.length:=by
 simp only[lenV,FF]
 cases h.get id with
 | none=>rfl
 | some o=>cases o<;>rfl
end Go.Dm.Tc
/-
What functions of the program compute,part 13: is a constraint wider than another one?
-/
namespace Go.Dm.Tc
def jE(s p:List UInt8):Bool:=decide (p.length≤s.length) && (s.take p.length == p)
theorem SS(s p:List UInt8):pcF D Wj [.str s,.str p]=some (.bool (jE s p)):=by
 unfold pcF
 rw[aM _ _ _ _ (by simp[Wj])]
 by_cases h:p.length≤s.length
 ·have hs:rV (.str s) none (some (.int .i64 (p.length:Int)))=some (.str (s.take p.length)):=by
   simp only[rV]
   rw[iO _ _ _ _ h]
   simp only[Cy]
   simp
  simp[Wj,h,hs,jE]
 ·simp[Wj,h,jE]
theorem s95(s p:List UInt8):pcF D t95 [.str s,.str p]=some (.bool (jE s p)):=by
 unfold pcF
 rw[aM _ _ _ _ (by simp[t95])]
 simp[t95,UE,SS]
theorem s97(s:List UInt8):pcF D t97 [.str s]=some (Ox ⟨true,0,s⟩):=by
 unfold pcF
 rw[aM _ _ _ _ (by simp[t97])]
 simp[t97,turn,Ox]
def lV(c:iB)(s:List UInt8):Bool:=if c.kind=2 then s == c.text else if c.kind=3 then jE s c.text else false
theorem s96(nm:List UInt8)(k lo hi:Int)(tx:List UInt8)(s:List UInt8) :
  pcF D t96 [.agg [.str nm,.int .i64 k,.int .i64 lo,.int .i64 hi,.str tx],.agg [.bool true,.int .i64 0,.str s]]=some (.bool (lV ⟨nm,k,lo,hi,tx⟩ s)):=by
 unfold pcF
 rw[aM _ _ _ _ (by simp[t96])]
 by_cases k1:k=1
 ·subst k1
  simp[t96,lV]
 ·by_cases k2:k=2
  ·subst k2
   simp[t96,lV]
  ·by_cases k3:k=3
   ·subst k3
    simp[t96,lV,e95,s95]
   ·simp[t96,lV,k1,k2,k3]
def nY(c x:iB):Bool :=
 if x.kind=1 then decide (c.kind=1) && decide (c.lo≤x.lo) && decide (x.hi≤c.hi)
 else if x.kind=3 then decide (c.kind=3) && jE x.text c.text
 else if x.kind=2 then lV c x.text
 else false
theorem s49(c x:iB):pcF D t49 [.agg [.str c.name,.int .i64 c.kind,.int .i64 c.lo,.int .i64 c.hi,.str c.text],.agg [.str x.name,.int .i64 x.kind,.int .i64 x.lo,.int .i64 x.hi,.str x.text]]=some (.bool (nY c x)):=by
 obtain⟨nm,k,lo,hi,tx⟩:=c
 obtain⟨nm',k',lo',oP,tx'⟩:=x
 unfold pcF
 rw[aM _ _ _ _ (by simp[t49])]
 simp only
 by_cases k1:k'=1
 ·subst k1
  by_cases j:k=1
  ·by_cases h1:lo≤lo'
   ·simp[t49,nY,j,h1]
   ·simp[t49,nY,j,h1]
  ·simp[t49,nY,j]
 ·by_cases k3:k'=3
  ·subst k3
   by_cases j:k=3
   ·simp[t49,nY,j,e95,s95]
   ·simp[t49,nY,j]
  ·by_cases k2:k'=2
   ·subst k2
    simp[t49,nY,e97,s97,Ox,e96,s96]
   ·simp[t49,nY,k1,k2,k3]
end Go.Dm.Tc
