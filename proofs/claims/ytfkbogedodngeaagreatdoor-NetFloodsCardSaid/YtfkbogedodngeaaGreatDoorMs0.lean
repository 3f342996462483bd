/- A part of the proof. -/
import Derived.Test.YtfkbogedodngeaaGreatDoorTcE
import Derived.Test.YtfkbogedodngeaaGreatDoorMm5
set_option linter.all false
set_option maxRecDepth 100000
namespace Go.Dm.Tc
def qL:Option Nat→Int
 | some i=>i
 | none=>-1
theorem l222(t:Bool)(xs:List bM)(g:Nat)(cap:List DV)(p:bM→Bool)(hg:∀x∈xs,∀h,fc D g ([bO x]++cap) h=some (.bool (p x),h))(hl:xs.length≤1000000) :
  ∀(rest:List bM) (i:Nat) (f:eI) (h:aA),xs.drop i=rest→f 0=eL t 7 bO xs→f 1=.func g cap→f 7=.int .i64 xs.length→f 8=.int .i64 i →
  jS (fin [.t 4] (run D 19 [.block 0,.seq Ya] (.loop Ng) f h))=some (.int .i64 (qL ((rest.findIdx? p).map (·+i)))):=by
 intro rest
 induction rest with
 | nil =>
  intro i f h hd h0 h1 h7 h8
  have hi:=iD hd
  have:¬(i<xs.length):=by omega
  rw[aJ Ng.eq_1]
  simp[Ya,h7,h8,this,qL]
 | cons e rest ih =>
  intro i f h hd h0 h1 h7 h8
  obtain⟨hi,he,pV⟩:=jO hd
  have Me:=hg e (by rw[←he];exact List.getElem_mem hi)
  simp only[bO,List.cons_append,List.nil_append]at Me
  rw[aJ Ng.eq_1]
  cases hp:p e with
  | true=>simp[h0,h1,h7,h8,hi,he,bO,Me,hp,qL,List.findIdx?_cons]
  | false =>
   simp[h0,h1,h7,h8,hi,he,bO,Me,hp]
   rw[bG (by omega) (by omega)]
   refine(ih (i+1) _ h pV ?_ ?_ ?_ ?_).trans ?_<;>simp[h0,h1,h7,List.findIdx?_cons,hp]
   congr 2
   funext q
   simp
   omega
theorem s222(t:Bool)(xs:List bM)(g:Nat)(cap:List DV)(p:bM→Bool)(hg:∀x∈xs,∀h,fc D g ([bO x]++cap) h=some (.bool (p x),h))(hl:xs.length≤1000000) :
  pcF D V7 [eL t 7 bO xs,.func g cap]=some (.int .i64 (qL (xs.findIdx? p))):=by
 unfold pcF
 rw[aM _ _ _ _ (by simp[V7])]
 simp[V7]
 refine(l222 t xs g cap p hg hl xs 0 _ _ rfl ?_ ?_ ?_ ?_).trans ?_<;>simp
theorem JE{α:Type}(p:α→Bool)(xs:List α):decide (0≤qL (xs.findIdx? p))=xs.any p:=by
 cases h:xs.findIdx? p with
 | none =>
  rw[List.findIdx?_eq_none_iff]at h
  simp only[qL]
  have:xs.any p=false:=by rw[List.any_eq_false];exact fun x hx=>by simp[h x hx]
  rw[this];rfl
 | some i =>
  have:=List.findIdx?_eq_some_iff_getElem.1 h
  obtain⟨hi,hp,_⟩:=this
  have:xs.any p=true:=List.any_eq_true.2 ⟨_,List.getElem_mem hi,hp⟩
  rw[this]
  simp[qL]
end Go.Dm.Tc
/-
What functions of the library compute,part 2: comparisons by a function,rows that rise,searches by halves.
-/
namespace Go.Dm.Tc
def kO{α:Type}(p:α→α→Bool):List α→Bool
 | a::b::r=>p a b && kO p (b::r)
 | _=>true
end Go.Dm.Tc
/-
What functions of the library compute,part 3: the search by halves.
-/
namespace Go.Dm.Tc
def dQ{α:Type}(cm:α→Int)(xs:List α):Nat:=xs.findIdx fun x=>!decide (cm x<0)
def pL{α:Type}(cm:α→Int)(xs:List α):Bool:=match xs[dQ cm xs]? with|some x=>decide (cm x=0)|none=>false
theorem wJ{α:Type}(cm:α→Int)(xs:List α):dQ cm xs≤xs.length:=List.findIdx_le_length
theorem Bv{α:Type}{cm:α→Int}{xs:List α}{k:Nat}(hk:k≤xs.length)(h1:∀q (hq:q<k),cm (xs[q]'(by omega))<0)(h2:∀(hq:k<xs.length),¬cm xs[k]<0):dQ cm xs=k:=by
 unfold dQ
 rcases Nat.lt_or_eq_of_le hk with aZ|rfl
 ·rw[List.findIdx_eq aZ]
  refine⟨by simpa using h2 aZ,fun j hj=>by simpa using h1 j hj⟩
 ·rw[List.findIdx_eq_length]
  intro x hx
  obtain⟨i,hi,rfl⟩:=List.mem_iff_getElem.1 hx
  simpa using h1 i hi
theorem l276(t:Bool)(xs:List ID)(c s:Int)(g:Nat)(cap:List DV)(cm:ID→Int)(hg:∀x∈xs,∀h,fc D g ([eID x,.agg [.int .i64 c,.int .i64 s]]++cap) h=some (.int .i64 (cm x),h))(hl:xs.length≤1000000)
  (hm:∀i j (hi:i<xs.length) (hj:j<xs.length),i≤j→cm xs[j]<0→cm xs[i]<0) (h:aA) (cp:Option Nat) (Hg:h.get 0=some (.arr 45 2 [.agg [.int .i64 c,.int .i64 s]] cp)) :
  ∀(n i j:Nat) (f:eI),j-i=n→i≤j→j≤xs.length→f 0=eL t 2 eID xs→f 2=.func g cap→f 4=.ptr 0 2 0 0→f 8=.int .i64 xs.length→f 9=.int .i64 i→f 10=.int .i64 j →
  (∀q (hq:q<i),(Az:q<xs.length)→cm xs[q]<0)→(∀q (hq:q<xs.length),j≤q→¬cm xs[q]<0) →
  jS (fin [.t 6,.t 7] (run D 49 [.block 0,.seq Nc] (.loop Xw) f h))=some (.tup [.int .i64 (dQ cm xs),.bool (pL cm xs)]):=by
 intro n
 induction n using Nat.strongRecOn with
 | ind n ih =>
  intro i j f hn LO hj h0 h2 h4 h8 h9 vC Hc vB
  rw[aJ Xw.eq_1]
  by_cases aZ:i<j
  ·have hk:(i+j) / 2<xs.length:=by omega
   have PH:xs[(i+j) / 2]?=some xs[(i+j) / 2]:=List.getElem?_eq_getElem hk
   have Me:=hg xs[(i+j) / 2] (List.getElem_mem hk)
   simp only[eID,List.cons_append,List.nil_append]at Me
   have w1:IntKind.i64.wrap ((i:Int)+j)=((i:Int)+j):=bG (by omega) (by omega)
   have w2:IntKind.u64.wrap ((i:Int)+j)=((i:Int)+j):=Mt (by omega) (by omega)
   have w3:IntKind.i64.wrap (((i+j) / 2:Nat):Int)=((i+j) / 2:Nat):=bG (by omega) (by omega)
   have w4:IntKind.i64.wrap ((((i+j) / 2:Nat):Int)+1)=((((i+j) / 2:Nat):Int)+1):=bG (by omega) (by omega)
   by_cases hc:cm xs[(i+j) / 2]<0
   ·simp[h0,h2,h4,h8,h9,vC,aZ,hk,PH,Hg,Me,eID,w1,w2,w3,w4,hc,-Int.natCast_ediv]
    refine ih (j-((i+j) / 2+1)) (by omega) ((i+j) / 2+1) j _ rfl (by omega) hj ?_ ?_ ?_ ?_ ?_ ?_ ?_ vB<;>try simp[h0,h2,h4,h8,vC,eID]
    intro q hq Az
    exact hm q ((i+j) / 2) Az hk (by omega) hc
   ·simp[h0,h2,h4,h8,h9,vC,aZ,hk,PH,Hg,Me,eID,w1,w2,w3,w4,hc,-Int.natCast_ediv]
    refine ih ((i+j) / 2-i) (by omega) i ((i+j) / 2) _ rfl (by omega) (by omega) ?_ ?_ ?_ ?_ ?_ ?_ Hc ?_<;>simp[h0,h2,h4,h8,h9,eID]
    intro q hq Az
    exact Int.not_lt.1 fun hx=>hc (hm ((i+j) / 2) q hk hq Az hx)
  ·have hij':i=j:=by omega
   subst hij'
   have eN:dQ cm xs=i:=Bv hj (fun q hq=>Hc q hq (by omega)) (fun hq=>vB i hq (Nat.le_refl i))
   by_cases hi:i<xs.length
   ·have Me:=hg xs[i] (List.getElem_mem hi)
    simp only[eID,List.cons_append,List.nil_append]at Me
    have PH:xs[i]?=some xs[i]:=List.getElem?_eq_getElem hi
    simp[Nc,h0,h2,h4,h8,h9,vC,hi,PH,Hg,Me,eID,eN,pL,aU]
    rfl
   ·simp[Nc,h0,h2,h4,h8,h9,vC,hi,eN,pL,aU]
theorem s276(t:Bool)(xs:List ID)(c s:Int)(g:Nat)(cap:List DV)(cm:ID→Int)(hg:∀x∈xs,∀h,fc D g ([eID x,.agg [.int .i64 c,.int .i64 s]]++cap) h=some (.int .i64 (cm x),h))(hl:xs.length≤1000000)
  (hm:∀i j (hi:i<xs.length) (hj:j<xs.length),i≤j→cm xs[j]<0→cm xs[i]<0) :
  pcF D V2 [eL t 2 eID xs,.agg [.int .i64 c,.int .i64 s],.func g cap]=some (.tup [.int .i64 (dQ cm xs),.bool (pL cm xs)]):=by
 unfold pcF
 rw[aM _ _ _ _ (by simp[V2])]
 simp[V2]
 refine l276 t xs c s g cap cm hg hl hm _ (some 1) (by simp) xs.length 0 xs.length _ (by omega) (by omega) (by omega) ?_ ?_ ?_ ?_ ?_ ?_ ?_ ?_<;>simp
 intro q hq Az
 omega
theorem l183(t:Bool)(xs:List cP)(c s:Int)(g:Nat)(cap:List DV)(cm:cP→Int)(hg:∀x∈xs,∀h,fc D g ([aG x,.agg [.int .i64 c,.int .i64 s]]++cap) h=some (.int .i64 (cm x),h))(hl:xs.length≤1000000)
  (hm:∀i j (hi:i<xs.length) (hj:j<xs.length),i≤j→cm xs[j]<0→cm xs[i]<0) (h:aA) (cp:Option Nat) (Hg:h.get 0=some (.arr 45 2 [.agg [.int .i64 c,.int .i64 s]] cp)) :
  ∀(n i j:Nat) (f:eI),j-i=n→i≤j→j≤xs.length→f 0=eL t 4 aG xs→f 2=.func g cap→f 4=.ptr 0 2 0 0→f 8=.int .i64 xs.length→f 9=.int .i64 i→f 10=.int .i64 j →
  (∀q (hq:q<i),(Az:q<xs.length)→cm xs[q]<0)→(∀q (hq:q<xs.length),j≤q→¬cm xs[q]<0) →
  jS (fin [.t 6,.t 7] (run D 49 [.block 0,.seq Nh] (.loop Yb) f h))=some (.tup [.int .i64 (dQ cm xs),.bool (pL cm xs)]):=by
 intro n
 induction n using Nat.strongRecOn with
 | ind n ih =>
  intro i j f hn LO hj h0 h2 h4 h8 h9 vC Hc vB
  rw[aJ Yb.eq_1]
  by_cases aZ:i<j
  ·have hk:(i+j) / 2<xs.length:=by omega
   have PH:xs[(i+j) / 2]?=some xs[(i+j) / 2]:=List.getElem?_eq_getElem hk
   have Me:=hg xs[(i+j) / 2] (List.getElem_mem hk)
   simp only[aG,List.cons_append,List.nil_append]at Me
   have w1:IntKind.i64.wrap ((i:Int)+j)=((i:Int)+j):=bG (by omega) (by omega)
   have w2:IntKind.u64.wrap ((i:Int)+j)=((i:Int)+j):=Mt (by omega) (by omega)
   have w3:IntKind.i64.wrap (((i+j) / 2:Nat):Int)=((i+j) / 2:Nat):=bG (by omega) (by omega)
   have w4:IntKind.i64.wrap ((((i+j) / 2:Nat):Int)+1)=((((i+j) / 2:Nat):Int)+1):=bG (by omega) (by omega)
   by_cases hc:cm xs[(i+j) / 2]<0
   ·simp[h0,h2,h4,h8,h9,vC,aZ,hk,PH,Hg,Me,aG,w1,w2,w3,w4,hc,-Int.natCast_ediv]
    refine ih (j-((i+j) / 2+1)) (by omega) ((i+j) / 2+1) j _ rfl (by omega) hj ?_ ?_ ?_ ?_ ?_ ?_ ?_ vB<;>try simp[h0,h2,h4,h8,vC,aG]
    intro q hq Az
    exact hm q ((i+j) / 2) Az hk (by omega) hc
   ·simp[h0,h2,h4,h8,h9,vC,aZ,hk,PH,Hg,Me,aG,w1,w2,w3,w4,hc,-Int.natCast_ediv]
    refine ih ((i+j) / 2-i) (by omega) i ((i+j) / 2) _ rfl (by omega) (by omega) ?_ ?_ ?_ ?_ ?_ ?_ Hc ?_<;>simp[h0,h2,h4,h8,h9,aG]
    intro q hq Az
    exact Int.not_lt.1 fun hx=>hc (hm ((i+j) / 2) q hk hq Az hx)
  ·have hij':i=j:=by omega
   subst hij'
   have eN:dQ cm xs=i:=Bv hj (fun q hq=>Hc q hq (by omega)) (fun hq=>vB i hq (Nat.le_refl i))
   by_cases hi:i<xs.length
   ·have Me:=hg xs[i] (List.getElem_mem hi)
    simp only[aG,List.cons_append,List.nil_append]at Me
    have PH:xs[i]?=some xs[i]:=List.getElem?_eq_getElem hi
    simp[Nh,h0,h2,h4,h8,h9,vC,hi,PH,Hg,Me,aG,eN,pL,aU]
    rfl
   ·simp[Nh,h0,h2,h4,h8,h9,vC,hi,eN,pL,aU]
theorem s183(t:Bool)(xs:List cP)(c s:Int)(g:Nat)(cap:List DV)(cm:cP→Int)(hg:∀x∈xs,∀h,fc D g ([aG x,.agg [.int .i64 c,.int .i64 s]]++cap) h=some (.int .i64 (cm x),h))(hl:xs.length≤1000000)
  (hm:∀i j (hi:i<xs.length) (hj:j<xs.length),i≤j→cm xs[j]<0→cm xs[i]<0) :
  pcF D W5 [eL t 4 aG xs,.agg [.int .i64 c,.int .i64 s],.func g cap]=some (.tup [.int .i64 (dQ cm xs),.bool (pL cm xs)]):=by
 unfold pcF
 rw[aM _ _ _ _ (by simp[W5])]
 simp[W5]
 refine l183 t xs c s g cap cm hg hl hm _ (some 1) (by simp) xs.length 0 xs.length _ (by omega) (by omega) (by omega) ?_ ?_ ?_ ?_ ?_ ?_ ?_ ?_<;>simp
 intro q hq Az
 omega
end Go.Dm.Tc
/-
What functions of the library compute,part 4: an element put into a row of the call's own.
-/
namespace Go.Dm.Tc
theorem a234(H:aA)(n0:Nat)(xs:List cP)(i:Nat)(x:cP)(qW vety:Nat)(vcap:Option Nat)(g0:H.get n0=some (.arr 68 4 (xs.map aG++[.unk]) none))(gv:H.get qW=some (.arr vety 4 [aG x] vcap))(hi:i≤xs.length)(hl:xs.length≤1000000)(wf:WF H)(bI:H.lim≤n0)(cT:qW≠n0) :
  ∃ H',gT (ev D) xU [.sl n0 4 0 xs.length,.int .i64 i,.sl qW 4 0 1] H=some (.sl n0 4 0 (xs.length+1),H')∧H'.get n0=some (.arr 68 4 ((xs.take i++x::xs.drop i).map aG) none):=by
 have aZ:=aC g0
 have w1:IntKind.i64.wrap ((xs.length:Int)+1)=(xs.length:Int)+1:=bG (by omega) (by omega)
 rw[aM _ _ _ _ (by simp[xU])]
 by_cases Py:i=xs.length
 ·subst Py
  simp[xU,g0,gv]
  rw[mS g0 (by simp) bI (by simp;omega) (by decide) (by simp)]
  simp[cO wf aZ,cF]
 ·have D8:¬((i:Int)=xs.length):=by omega
  have w2:IntKind.i64.wrap ((i:Int)+1)=(i:Int)+1:=bG (by omega) (by omega)
  have tZ:i+1≤xs.length+1:=by omega
  have PM:i+1+(xs.length-i)≤xs.length+1:=by omega
  have hi3:i+(xs.length+1-i)≤xs.length+1:=by omega
  have hi4:i≤xs.length+1:=by omega
  have hx:i<(xs.map aG).length:=by simp;omega
  have e1:=Ly (xs.map aG) .unk i hx
  have e2:=Q5 (xs.map aG) (aG x) i hx
  have hi5:xs.length+1≤min (i+1) xs.length+(xs.length-i):=by omega
  have hi6:i+1≤min (i+1) xs.length+(xs.length-i):=by omega
  simp only[List.length_map]at e1 e2
  simp[xU,g0,gv,D8,hi,w1,w2,e1,e2,hi5,hi6,tZ,PM,hi3,hi4,e288,dM,cT,bI,aZ,cO wf,cO wf.set]
  have e3:List.take (xs.length+1-i) [aG x]=[aG x]:=List.take_of_length_le (by simp;omega)
  rw[e3,e2]
theorem b234(H:aA)(n0:Nat)(xs:List cP)(i:Nat)(x:cP)(qW vety:Nat)(vcap:Option Nat)(g0:H.get n0=some (.arr 68 4 (xs.map aG) (some xs.length)))(gv:H.get qW=some (.arr vety 4 [aG x] vcap))(hi:i≤xs.length)(hl:xs.length≤1000000)(wf:WF H)(bI:H.lim≤n0)(cT:qW≠n0) :
  ∃ H',gT (ev D) xU [.sl n0 4 0 xs.length,.int .i64 i,.sl qW 4 0 1] H=some (.sl H.n 4 0 (xs.length+1),H')∧H'.get H.n=some (.arr 68 4 ((xs.take i++x::xs.drop i).map aG) none):=by
 have aZ:=aC g0
 have VP:=aC gv
 have w1:IntKind.i64.wrap ((xs.length:Int)+1)=(xs.length:Int)+1:=bG (by omega) (by omega)
 rw[aM _ _ _ _ (by simp[xU])]
 by_cases Py:i=xs.length
 ·subst Py
  simp[xU,g0,gv]
  rw[jE g0 (by simp) (by simp) (by simp;omega) (by decide) (by simp)]
  simp
  rw[List.take_of_length_le (by simp)]
 ·have D8:¬((i:Int)=xs.length):=by omega
  have w2:IntKind.i64.wrap ((i:Int)+1)=(i:Int)+1:=bG (by omega) (by omega)
  have w3:IntKind.i64.wrap ((xs.length:Int)+1-i)=((xs.length+1-i:Nat):Int):=by rw[bG (by omega) (by omega)];omega
  have hx:i<(xs.map aG).length:=by simp;omega
  have hq:(xs.length:Int)<(xs.length:Int)+1:=by omega
  have Mc:H.lim≤H.n:=by omega
  have hz:((xs.length+1-i:Nat):Int)≤140737488355328:=by omega
  have e1:=fun z=>Ut (xs.map aG) z (aG x) i hx
  have e2:=fun z=>Us (xs.map aG) z (aG x) i hx
  have e3:i+(xs.length+1-i)=xs.length+1:=by omega
  have e4:i+(xs.length-i+1)=xs.length+1:=by omega
  have e5:i+1≤xs.length+1:=by omega
  have e6:i+1+(xs.length-i)≤xs.length+1:=by omega
  have e7:i≤xs.length+1:=by omega
  have e8:List.take (xs.length+1-i) [aG x]=[aG x]:=List.take_of_length_le (by simp;omega)
  have e9:List.take (xs.length-i) (List.drop i (List.map aG xs))=List.drop i (List.map aG xs):=List.take_of_length_le (by simp)
  simp only[List.length_map]at e1 e2
  simp[xU,g0,gv,D8,hi,w1,w2,w3,hq,hz]
  rw[jE g0 (by simp;omega) (by simp;omega) (by simp;omega) (by decide) (by simp;omega)]
  simp[g0,gv,w2,hi,aZ,VP,bI,Mc,e3,e4,e5,e6,e7,e1,e2,e8,e9,Nat.ne_of_lt aZ,Nat.ne_of_lt VP,Nat.min_eq_left hi]
theorem s234(lo:Nat)(h:aA)(v:DV)(xs:List cP)(i:Nat)(x:cP)(qW vety c:Nat)(ho:Own lo h v 68 4 (xs.map aG))(gv:h.get qW=some (.arr vety 4 [aG x] (some c)))(hi:i≤xs.length)(hl:xs.length≤1000000)(wf:WF h)(eN:lo≤h.n)(bI:h.lim≤h.n) :
  ∃ v' h',fc D 234 [v,.int .i64 i,.sl qW 4 0 1] h=some (v',h')∧Own lo h' v' 68 4 ((xs.take i++x::xs.drop i).map aG)∧Ext lo h h'∧jQ 68 h h':=by
 have VP:=aC gv
 rw[e234]
 cases ho with
 | nil hv hx =>
  subst hv
  have Ma:xs=[]:=List.map_eq_nil_iff.1 hx
  subst Ma
  have E1:i=0:=by simpa using hi
  subst E1
  refine⟨.sl h.n 4 0 1,h.push (.arr 68 4 [aG x] none),?_,.arr h.n rfl cX bI eN,(Ext.refl eN wf).push,(jQ.refl _ _).push⟩
  simp only[dH,xU]
  rw[aM _ _ _ _ (by simp)]
  simp[gv,fC,bF]
 | arr id hv hg Iw tZ =>
  subst hv
  have aZ:=aC hg
  have cT:qW≠id:=by intro e;subst e;rw[gv]at hg;simp at hg
  have hw:WF (h.set id .dead):=wf.set
  have gv':∀o l,({(h.set id .dead).push o with lim:=l}:aA).get qW=some (.arr vety 4 [aG x] (some c)):=fun o l=>by
   rw[Ew,cJ,if_neg (by rw[RC];omega),cO wf aZ,if_neg cT];exact gv
  have g0:∀o l,({(h.set id .dead).push o with lim:=l}:aA).get h.n=some o:=fun o l=>by
   rw[Ew];exact cX
  have gC:((xs.take i++x::xs.drop i).map aG).all (dL 200 h.n)=true:=by
   rw[List.all_eq_true]
   intro y hy
   obtain⟨z,_,rfl⟩:=List.mem_map.1 hy
   exact(J0 z).belowN (by decide)
  have hd:List.take (xs.length+1) (List.drop 0 ((xs.take i++x::xs.drop i).map aG))=(xs.take i++x::xs.drop i).map aG:=by
   rw[List.drop_zero,List.take_of_length_le (by simp only[List.length_map,List.length_append,List.length_take,List.length_cons,List.length_drop];omega)]
  have sc1:hJ (ev D) xU [.int .i64 i,.sl qW 4 0 1] id 4 0 (xs.map aG).length 68 (xs.map aG) h 1 none=some ((xs.take i++x::xs.drop i).map aG):=by
   obtain⟨H',k1,k2⟩:=a234 {(h.set id .dead).push (.arr 68 4 (xs.map aG++[.unk]) none)with lim:=h.n} h.n xs i x qW vety (some c) (g0 _ _) (gv' _ _) hi hl hw.push (Nat.le_refl _) (by omega)
   simp only[hJ,List.length_map,List.replicate_one]
   rw[k1]
   have bZ:0+(xs.length+1)≤((xs.take i++x::xs.drop i).map aG).length:=by simp;omega
   simp only[pF,k2,true_and,Nat.le_refl]
   rw[hd,if_pos ⟨bZ,gC⟩]
  have sc2:hJ (ev D) xU [.int .i64 i,.sl qW 4 0 1] id 4 0 (xs.map aG).length 68 (xs.map aG) h 0 (some ((xs.map aG).length+0))=some ((xs.take i++x::xs.drop i).map aG):=by
   obtain⟨H',k1,k2⟩:=b234 {(h.set id .dead).push (.arr 68 4 (xs.map aG) (some xs.length))with lim:=h.n} h.n xs i x qW vety (some c) (g0 _ _) (gv' _ _) hi hl hw.push (Nat.le_refl _) (by omega)
   simp only[hJ,List.length_map,List.replicate_zero,List.append_nil,Nat.add_zero]
   rw[k1]
   have bZ:0+(xs.length+1)≤((xs.take i++x::xs.drop i).map aG).length:=by simp;omega
   have hn:h.n≤({(h.set id .dead).push (.arr 68 4 (xs.map aG) (some xs.length))with lim:=h.n}:aA).n:=Nat.le_succ _
   simp only[pF,k2,true_and]
   rw[hd,if_pos ⟨hn,bZ,gC⟩]
  have mB:uC ((xs.take i++x::xs.drop i).map aG) ((xs.take i++x::xs.drop i).map aG)=true:=lF _
  refine⟨.sl h.n 4 0 ((xs.take i++x::xs.drop i).map aG).length,(h.set id .dead).push (.arr 68 4 ((xs.take i++x::xs.drop i).map aG) none),?_,.arr h.n rfl (by exact cX) bI eN,((Ext.refl eN wf).set tZ aZ).push,((jQ.refl _ _).set wf hg aZ).push⟩
  simp only[dH,show xU.mode=.split from rfl,hg,true_and,Iw,if_true]
  unfold kB
  have hk:(List.map Bb [DV.int .i64 (i:Int),DV.sl qW 4 0 1]).foldl (·+·) 0=1:=rfl
  rw[hk,sc1]
  simp only[List.range_one,List.all_cons,List.all_nil,sc2,mB,Bool.and_self,if_true]
theorem q234{h:aA}{v:DV}{i qW:Nat}{A:Option (DV×aA)}(hA:fc D 234 [v,.int .i64 (i:Int),.sl qW 4 0 1] h=A)(lo:Nat)(xs:List cP)(x:cP){vety c:Nat}(ho:Own lo h v 68 4 (xs.map aG))(gv:h.get qW=some (.arr vety 4 [aG x] (some c)))(hi:i≤xs.length)(hl:xs.length≤1000000)(wf:WF h)(eN:lo≤h.n)(bI:h.lim≤h.n) :
  ∃ v' h',A=some (v',h')∧Own lo h' v' 68 4 ((xs.take i++x::xs.drop i).map aG)∧Ext lo h h'∧jQ 68 h h':=by
 subst hA
 exact s234 lo h v xs i x qW vety c ho gv hi hl wf eN bI
theorem a235(H:aA)(n0:Nat)(xs:List ID)(i:Nat)(x:ID)(qW vety:Nat)(vcap:Option Nat)(g0:H.get n0=some (.arr 45 2 (xs.map eID++[.unk]) none))(gv:H.get qW=some (.arr vety 2 [eID x] vcap))(hi:i≤xs.length)(hl:xs.length≤1000000)(wf:WF H)(bI:H.lim≤n0)(cT:qW≠n0) :
  ∃ H',gT (ev D) xS [.sl n0 2 0 xs.length,.int .i64 i,.sl qW 2 0 1] H=some (.sl n0 2 0 (xs.length+1),H')∧H'.get n0=some (.arr 45 2 ((xs.take i++x::xs.drop i).map eID) none):=by
 have aZ:=aC g0
 have w1:IntKind.i64.wrap ((xs.length:Int)+1)=(xs.length:Int)+1:=bG (by omega) (by omega)
 rw[aM _ _ _ _ (by simp[xS])]
 by_cases Py:i=xs.length
 ·subst Py
  simp[xS,g0,gv]
  rw[mS g0 (by simp) bI (by simp;omega) (by decide) (by simp)]
  simp[cO wf aZ,cF]
 ·have D8:¬((i:Int)=xs.length):=by omega
  have w2:IntKind.i64.wrap ((i:Int)+1)=(i:Int)+1:=bG (by omega) (by omega)
  have tZ:i+1≤xs.length+1:=by omega
  have PM:i+1+(xs.length-i)≤xs.length+1:=by omega
  have hi3:i+(xs.length+1-i)≤xs.length+1:=by omega
  have hi4:i≤xs.length+1:=by omega
  have hx:i<(xs.map eID).length:=by simp;omega
  have e1:=Ly (xs.map eID) .unk i hx
  have e2:=Q5 (xs.map eID) (eID x) i hx
  have hi5:xs.length+1≤min (i+1) xs.length+(xs.length-i):=by omega
  have hi6:i+1≤min (i+1) xs.length+(xs.length-i):=by omega
  simp only[List.length_map]at e1 e2
  simp[xS,g0,gv,D8,hi,w1,w2,e1,e2,hi5,hi6,tZ,PM,hi3,hi4,e290,dM,cT,bI,aZ,cO wf,cO wf.set]
  have e3:List.take (xs.length+1-i) [eID x]=[eID x]:=List.take_of_length_le (by simp;omega)
  rw[e3,e2]
theorem b235(H:aA)(n0:Nat)(xs:List ID)(i:Nat)(x:ID)(qW vety:Nat)(vcap:Option Nat)(g0:H.get n0=some (.arr 45 2 (xs.map eID) (some xs.length)))(gv:H.get qW=some (.arr vety 2 [eID x] vcap))(hi:i≤xs.length)(hl:xs.length≤1000000)(wf:WF H)(bI:H.lim≤n0)(cT:qW≠n0) :
  ∃ H',gT (ev D) xS [.sl n0 2 0 xs.length,.int .i64 i,.sl qW 2 0 1] H=some (.sl H.n 2 0 (xs.length+1),H')∧H'.get H.n=some (.arr 45 2 ((xs.take i++x::xs.drop i).map eID) none):=by
 have aZ:=aC g0
 have VP:=aC gv
 have w1:IntKind.i64.wrap ((xs.length:Int)+1)=(xs.length:Int)+1:=bG (by omega) (by omega)
 rw[aM _ _ _ _ (by simp[xS])]
 by_cases Py:i=xs.length
 ·subst Py
  simp[xS,g0,gv]
  rw[jE g0 (by simp) (by simp) (by simp;omega) (by decide) (by simp)]
  simp
  rw[List.take_of_length_le (by simp)]
 ·have D8:¬((i:Int)=xs.length):=by omega
  have w2:IntKind.i64.wrap ((i:Int)+1)=(i:Int)+1:=bG (by omega) (by omega)
  have w3:IntKind.i64.wrap ((xs.length:Int)+1-i)=((xs.length+1-i:Nat):Int):=by rw[bG (by omega) (by omega)];omega
  have hx:i<(xs.map eID).length:=by simp;omega
  have hq:(xs.length:Int)<(xs.length:Int)+1:=by omega
  have Mc:H.lim≤H.n:=by omega
  have hz:((xs.length+1-i:Nat):Int)≤140737488355328:=by omega
  have e1:=fun z=>Ut (xs.map eID) z (eID x) i hx
  have e2:=fun z=>Us (xs.map eID) z (eID x) i hx
  have e3:i+(xs.length+1-i)=xs.length+1:=by omega
  have e4:i+(xs.length-i+1)=xs.length+1:=by omega
  have e5:i+1≤xs.length+1:=by omega
  have e6:i+1+(xs.length-i)≤xs.length+1:=by omega
  have e7:i≤xs.length+1:=by omega
  have e8:List.take (xs.length+1-i) [eID x]=[eID x]:=List.take_of_length_le (by simp;omega)
  have e9:List.take (xs.length-i) (List.drop i (List.map eID xs))=List.drop i (List.map eID xs):=List.take_of_length_le (by simp)
  simp only[List.length_map]at e1 e2
  simp[xS,g0,gv,D8,hi,w1,w2,w3,hq,hz]
  rw[jE g0 (by simp;omega) (by simp;omega) (by simp;omega) (by decide) (by simp;omega)]
  simp[g0,gv,w2,hi,aZ,VP,bI,Mc,e3,e4,e5,e6,e7,e1,e2,e8,e9,Nat.ne_of_lt aZ,Nat.ne_of_lt VP,Nat.min_eq_left hi]
theorem s235(lo:Nat)(h:aA)(v:DV)(xs:List ID)(i:Nat)(x:ID)(qW vety c:Nat)(ho:Own lo h v 45 2 (xs.map eID))(gv:h.get qW=some (.arr vety 2 [eID x] (some c)))(hi:i≤xs.length)(hl:xs.length≤1000000)(wf:WF h)(eN:lo≤h.n)(bI:h.lim≤h.n) :
  ∃ v' h',fc D 235 [v,.int .i64 i,.sl qW 2 0 1] h=some (v',h')∧Own lo h' v' 45 2 ((xs.take i++x::xs.drop i).map eID)∧Ext lo h h'∧jQ 45 h h':=by
 have VP:=aC gv
 rw[e235]
 cases ho with
 | nil hv hx =>
  subst hv
  have Ma:xs=[]:=List.map_eq_nil_iff.1 hx
  subst Ma
  have E1:i=0:=by simpa using hi
  subst E1
  refine⟨.sl h.n 2 0 1,h.push (.arr 45 2 [eID x] none),?_,.arr h.n rfl cX bI eN,(Ext.refl eN wf).push,(jQ.refl _ _).push⟩
  simp only[dH,xS]
  rw[aM _ _ _ _ (by simp)]
  simp[gv,fC,bF]
 | arr id hv hg Iw tZ =>
  subst hv
  have aZ:=aC hg
  have cT:qW≠id:=by intro e;subst e;rw[gv]at hg;simp at hg
  have hw:WF (h.set id .dead):=wf.set
  have gv':∀o l,({(h.set id .dead).push o with lim:=l}:aA).get qW=some (.arr vety 2 [eID x] (some c)):=fun o l=>by
   rw[Ew,cJ,if_neg (by rw[RC];omega),cO wf aZ,if_neg cT];exact gv
  have g0:∀o l,({(h.set id .dead).push o with lim:=l}:aA).get h.n=some o:=fun o l=>by
   rw[Ew];exact cX
  have gC:((xs.take i++x::xs.drop i).map eID).all (dL 200 h.n)=true:=by
   rw[List.all_eq_true]
   intro y hy
   obtain⟨z,_,rfl⟩:=List.mem_map.1 hy
   exact(WQ z).belowN (by decide)
  have hd:List.take (xs.length+1) (List.drop 0 ((xs.take i++x::xs.drop i).map eID))=(xs.take i++x::xs.drop i).map eID:=by
   rw[List.drop_zero,List.take_of_length_le (by simp only[List.length_map,List.length_append,List.length_take,List.length_cons,List.length_drop];omega)]
  have sc1:hJ (ev D) xS [.int .i64 i,.sl qW 2 0 1] id 2 0 (xs.map eID).length 45 (xs.map eID) h 1 none=some ((xs.take i++x::xs.drop i).map eID):=by
   obtain⟨H',k1,k2⟩:=a235 {(h.set id .dead).push (.arr 45 2 (xs.map eID++[.unk]) none)with lim:=h.n} h.n xs i x qW vety (some c) (g0 _ _) (gv' _ _) hi hl hw.push (Nat.le_refl _) (by omega)
   simp only[hJ,List.length_map,List.replicate_one]
   rw[k1]
   have bZ:0+(xs.length+1)≤((xs.take i++x::xs.drop i).map eID).length:=by simp;omega
   simp only[pF,k2,true_and,Nat.le_refl]
   rw[hd,if_pos ⟨bZ,gC⟩]
  have sc2:hJ (ev D) xS [.int .i64 i,.sl qW 2 0 1] id 2 0 (xs.map eID).length 45 (xs.map eID) h 0 (some ((xs.map eID).length+0))=some ((xs.take i++x::xs.drop i).map eID):=by
   obtain⟨H',k1,k2⟩:=b235 {(h.set id .dead).push (.arr 45 2 (xs.map eID) (some xs.length))with lim:=h.n} h.n xs i x qW vety (some c) (g0 _ _) (gv' _ _) hi hl hw.push (Nat.le_refl _) (by omega)
   simp only[hJ,List.length_map,List.replicate_zero,List.append_nil,Nat.add_zero]
   rw[k1]
   have bZ:0+(xs.length+1)≤((xs.take i++x::xs.drop i).map eID).length:=by simp;omega
   have hn:h.n≤({(h.set id .dead).push (.arr 45 2 (xs.map eID) (some xs.length))with lim:=h.n}:aA).n:=Nat.le_succ _
   simp only[pF,k2,true_and]
   rw[hd,if_pos ⟨hn,bZ,gC⟩]
  have mB:uC ((xs.take i++x::xs.drop i).map eID) ((xs.take i++x::xs.drop i).map eID)=true:=lF _
  refine⟨.sl h.n 2 0 ((xs.take i++x::xs.drop i).map eID).length,(h.set id .dead).push (.arr 45 2 ((xs.take i++x::xs.drop i).map eID) none),?_,.arr h.n rfl (by exact cX) bI eN,((Ext.refl eN wf).set tZ aZ).push,((jQ.refl _ _).set wf hg aZ).push⟩
  simp only[dH,show xS.mode=.split from rfl,hg,true_and,Iw,if_true]
  unfold kB
  have hk:(List.map Bb [DV.int .i64 (i:Int),DV.sl qW 2 0 1]).foldl (·+·) 0=1:=rfl
  rw[hk,sc1]
  simp only[List.range_one,List.all_cons,List.all_nil,sc2,mB,Bool.and_self,if_true]
theorem q235{h:aA}{v:DV}{i qW:Nat}{A:Option (DV×aA)}(hA:fc D 235 [v,.int .i64 (i:Int),.sl qW 2 0 1] h=A)(lo:Nat)(xs:List ID)(x:ID){vety c:Nat}(ho:Own lo h v 45 2 (xs.map eID))(gv:h.get qW=some (.arr vety 2 [eID x] (some c)))(hi:i≤xs.length)(hl:xs.length≤1000000)(wf:WF h)(eN:lo≤h.n)(bI:h.lim≤h.n) :
  ∃ v' h',A=some (v',h')∧Own lo h' v' 45 2 ((xs.take i++x::xs.drop i).map eID)∧Ext lo h h'∧jQ 45 h h':=by
 subst hA
 exact s235 lo h v xs i x qW vety c ho gv hi hl wf eN bI
end Go.Dm.Tc
/-
What functions of the statements' books compute: are two rows the same?
-/
namespace Go.Dm.Tc
theorem l32(t u:Bool)(xs ys:List yX)(hl:xs.length≤1000000)(LI:xs.length=ys.length) :
  ∀(rest Dg:List yX) (i:Nat) (f:eI) (h:aA),xs.drop i=rest→ys.drop i=Dg→f 0=eL t 5 fZ xs→f 1=eL u 5 fZ ys→f 5=.int .i64 i →
  jS (fin [.t 4] (run D 26 [.block 0,.seq FA] (.loop N5) f h))=some (.bool (decide (rest=Dg))):=by
 intro rest
 induction rest with
 | nil =>
  intro Dg i f h hd Mh h0 h1 h5
  have hi:=iD hd
  have:¬(i<xs.length):=by omega
  have hr:Dg=[]:=by rw[←Mh];exact List.drop_eq_nil_of_le (by omega)
  subst hr
  rw[aJ N5.eq_1]
  simp[FA,h0,h5,this]
 | cons e rest ih =>
  intro Dg i f h hd Mh h0 h1 h5
  obtain⟨hi,he,pV⟩:=jO hd
  cases Dg with
  | nil=>have:=iD Mh;omega
  | cons e' Dg =>
   obtain⟨tX,JI,hd1'⟩:=jO Mh
   rw[aJ N5.eq_1]
   by_cases hp:e=e'
   ·subst hp
    simp[h0,h1,h5,hi,tX,he,JI,fZ]
    rw[bG (by omega) (by omega)]
    refine(ih Dg (i+1) _ h pV hd1' ?_ ?_ ?_).trans ?_<;>simp[h0,h1,fZ]
   ·have Va:=hp
    first
     | rw[ID.mk.injEq]at Va
     | (cases e;cases e';simp only[ID.mk.injEq,yX.mk.injEq,not_and]at Va)
     | (cases e;cases e';rename_i v _ v';cases v;cases v';simp only[Att.mk.injEq,Val.mk.injEq,not_and]at Va)
     | skip
    simp[h0,h1,h5,hi,tX,he,JI,fZ,hp,Va,-not_and]
    try (split<;>simp_all)
theorem s32(t u:Bool)(xs ys:List yX)(hl:xs.length≤1000000) :
  pcF D t32 [eL t 5 fZ xs,eL u 5 fZ ys]=some (.bool (decide (xs=ys))):=by
 unfold pcF
 rw[aM _ _ _ _ (by simp[t32])]
 by_cases LI:xs.length=ys.length
 ·simp[t32,LI]
  refine(l32 t u xs ys hl LI xs ys 0 _ _ rfl rfl ?_ ?_ ?_).trans ?_<;>simp[LI]
 ·have:xs≠ys:=fun h=>LI (by rw[h])
  have h2:¬((xs.length:Int)=ys.length):=by omega
  simp[t32,h2,this]
end Go.Dm.Tc
/-
What functions of the library compute,part 6: an element taken out of a row of the call's own;elements taken out by a function.
-/
namespace Go.Dm.Tc
def lenOf:DV→Option Nat
 | .nsl=>some 0
 | .sl _ _ _ len=>some len
 | .isl _ _ xs=>some xs.length
 | _=>none
def zL(x lo hi mx:DV):Option DV :=
 match lenOf x with
 | some len=>match cH (some mx) 0 len with
  | some m=>match cH (some hi) 0 m with
   | some b=>match cH (some lo) 0 b with
    | some _=>some .unk
    | none=>none
   | none=>none
  | none=>none
 | none=>none
def yS(h:aA)(sz:Nat)(z x:DV):Option (DV×aA) :=
 match x with
 | .nsl=>some (.tup [],h)
 | .isl _ _ []=>some (.tup [],h)
 | .sl id dI off len=>if len=0 then some (.tup [],h)else match vN h sz (.sl id dI off len) (List.replicate len z)with|some (_,h')=>some (.tup [],h')|none=>none
 | _=>none
theorem Lp(c:Nat→List DV→aA→Option (DV×aA))(h:aA)(env:Env)(x lo hi mx:Opd):bC c (.slice3 x lo hi mx) env h=cV h (zL (x.eval env) (lo.eval env) (hi.eval env) (mx.eval env)):=by
 simp only[bC,aB,zL,Ii,Option.map_some]
 cases x.eval env<;>try rfl
 all_goals
  simp only[lenOf]
  generalize cH (some (mx.eval env)) 0 _=A
  cases A with
  | none=>rfl
  | some m =>
   simp only
   cases cH (some (hi.eval env)) 0 m with
   | none=>rfl
   | some b =>
    simp only
    cases cH (some (lo.eval env)) 0 b with
    | none=>rfl
    | some a=>rfl
theorem zW(c:Nat→List DV→aA→Option (DV×aA))(h:aA)(env:Env)(sz:Nat)(z:DV)(x:Opd):bC c (.clear sz z x) env h=yS h sz z (x.eval env):=by
 simp only[bC,aB,yS]
 cases x.eval env<;>rfl
theorem Yp{id sz off len lo hi:Nat}(h1:lo≤hi)(h2:hi≤len):zL (.sl id sz off len) (.int .i64 (lo:Int)) (.int .i64 (hi:Int)) (.int .i64 (len:Int))=some .unk:=by
 simp only[zL,lenOf]
 rw[mR _ _ _ _ (Nat.le_refl _)]
 simp only
 rw[mR _ _ _ _ h2]
 simp only
 rw[mR _ _ _ _ h1]
theorem wQ{h:aA}{id ety sz off len:Nat}{xs:List DV}{cap:Option Nat}{z:DV}(hg:h.get id=some (.arr ety sz xs cap))(hl:off+len≤xs.length)(bI:h.lim≤id)(h0:len≠0) :
  yS h sz z (.sl id sz off len)=some (.tup [],h.set id (.arr ety sz (cF xs (List.replicate len z) off) cap)):=by
 simp[yS,h0,hg,hl,bI]
theorem WR(X:List DV)(i:Nat)(hi:i+1<X.length):cF X (X.drop (i+1)) i=(X.take i++X.drop (i+1))++X.drop (X.length-1):=by
 unfold cF
 rw[List.length_drop]
 congr 2
 omega
theorem Yn(A B ys:List DV):cF (A++B) ys A.length=A++(ys++B.drop ys.length):=by
 unfold cF
 rw[List.take_left' rfl,List.append_assoc,List.drop_append]
 simp
theorem s263(lo:Nat)(h:aA)(v:DV)(xs:List cP)(i:Nat)(ho:Own lo h v 68 4 (xs.map aG))(hi:i<xs.length)(hl:xs.length≤1000000)(wf:WF h)(eN:lo≤h.n) :
  ∃ v' h',fc D 263 [v,.int .i64 (i:Int),.int .i64 ((i:Int)+1)] h=some (v',h')∧OwnR lo h' v' 68 4 ((xs.take i++xs.drop (i+1)).map aG)∧Ext lo h h'∧jQ 68 h h':=by
 rw[e263]
 cases ho with
 | nil hv hx =>
  have Ma:xs=[]:=List.map_eq_nil_iff.1 hx
  subst Ma
  simp at hi
 | arr id hv hg Iw tZ =>
  subst hv
  have aZ:=aC hg
  have hb3:zL (.sl id 4 0 xs.length) (.int .i64 (i:Int)) (.int .i64 ((i:Int)+1)) (.int .i64 (xs.length:Int))=some .unk:=Yp (hi:=i+1) (by omega) (by omega)
  have cT:¬((i:Int)=(i:Int)+1):=by omega
  rw[aM _ _ _ _ (by simp[V5])]
  by_cases hend:i+1=xs.length
  ·have h1:i+1≤xs.length:=by omega
   have e2:xs.length-(i+1)=0:=by omega
   have e3:List.drop (i+1) xs=[]:=List.drop_eq_nil_of_le (by omega)
   have e4:xs.length-i=1:=by omega
   have hn0:(i:Int)≤(xs.length:Int):=by omega
   have wN:∀z,yS h 4 z (.sl id 4 i 1)=some (.tup [],h.set id (.arr 68 4 (cF (xs.map aG) [z] i) none)):=fun z=>wQ (len:=1) hg (by simp;omega) Iw (by decide)
   have PR:bF h 68 4 48 (.sl id 4 0 i) []=some (.sl id 4 0 i,h):=rfl
   have tX:i≤xs.length:=by omega
   simp[V5,Lp,zW,hb3,cT,hg,h1,e2,e3,e4,wN,PR,tX]
   refine⟨_,_,⟨rfl,rfl⟩,.arr id [(.agg [.int .i64 0,.int .i64 0,.nsl,.int .i64 0])] none (by simp;omega) ?_ Iw tZ,(Ext.refl eN wf).set tZ aZ,(jQ.refl _ _).set wf hg aZ⟩
   rw[cO wf aZ,if_pos rfl]
   simp[cF]
   omega
  ·have h1:i+1≤xs.length:=by omega
   have h2:i+1<(xs.map aG).length:=by simp;omega
   have e1:List.take (xs.length-(i+1)) (List.drop (i+1) (List.map aG xs))=List.drop (i+1) (List.map aG xs):=List.take_of_length_le (by simp)
   have e5:i+1+(xs.length-(i+1))≤xs.length:=by omega
   have e6:i+(xs.length-(i+1))=xs.length-1:=by omega
   have e7:xs.length-(xs.length-1)=1:=by omega
   have tX:i≤xs.length:=by omega
   have hq:xs.length-1≤xs.length:=by omega
   obtain⟨H,hH⟩:∃ H,H=h.set id (.arr 68 4 ((xs.map aG).take i++(xs.map aG).drop (i+1)++(xs.map aG).drop (xs.length-1)) none):=⟨_,rfl⟩
   have PR:bF h 68 4 48 (.sl id 4 0 i) (List.drop (i+1) (List.map aG xs))=some (.sl id 4 0 (xs.length-1),H):=by
    rw[mS hg (by simp;omega) Iw (by simp;omega) (by decide) (by simp;omega),WR _ _ h2,hH]
    simp[e6]
   have gH:H.get id=some (.arr 68 4 ((xs.map aG).take i++(xs.map aG).drop (i+1)++(xs.map aG).drop (xs.length-1)) none):=by rw[hH,cO wf aZ,if_pos rfl]
   have lH:H.lim=h.lim:=by rw[hH];rfl
   have wH:WF H:=by rw[hH];exact wf.set
   have nH:H.n=h.n:=by rw[hH];rfl
   have RP:(List.take i (xs.map aG)++List.drop (i+1) (xs.map aG)).length=xs.length-1:=by simp;omega
   have wN:∀z,yS H 4 z (.sl id 4 (xs.length-1) 1)=some (.tup [],H.set id (.arr 68 4 (cF ((xs.map aG).take i++(xs.map aG).drop (i+1)++(xs.map aG).drop (xs.length-1)) [z] (xs.length-1)) none)):=fun z=>wQ (len:=1) gH (by simp;omega) (by rw[lH];exact Iw) (by decide)
   have Bz:IntKind.i64.wrap ((xs.length-1:Nat):Int)=((xs.length-1:Nat):Int):=bG (by omega) (by omega)
   have D5:Oc 4 4 id 0 (xs.length-1) (some (.int .i64 ((xs.length-1:Nat):Int))) (some (.int .i64 ((xs.length:Nat):Int))) (H.get id)=some (.sl id 4 (xs.length-1) 1):=by
    have hL:(List.take i (xs.map aG)++List.drop (i+1) (xs.map aG)++List.drop (xs.length-1) (xs.map aG)).length=xs.length:=by simp;omega
    rw[gH,Da,hL,if_pos ⟨rfl,rfl,by omega⟩,mR _ _ _ _ (by omega),Cz,mR _ _ _ _ (by omega),Ld]
    simp[e7]
   simp[V5,Lp,zW,hb3,cT,hg,h1,e1,PR,tX,D5,wN]
   refine⟨_,_,⟨rfl,rfl⟩,.arr id [(.agg [.int .i64 0,.int .i64 0,.nsl,.int .i64 0])] none (by simp;omega) ?_ ?_ tZ,?_,?_⟩
   ·rw[cO wH (by rw[nH];exact aZ),if_pos rfl]
    have:=Yn (List.take i (xs.map aG)++List.drop (i+1) (xs.map aG)) (List.drop (xs.length-1) (xs.map aG)) [(.agg [.int .i64 0,.int .i64 0,.nsl,.int .i64 0])]
    rw[RP]at this
    rw[List.append_assoc]at this
    rw[this]
    simp
    omega
   ·show H.lim≤id
    rw[lH];exact Iw
   ·rw[hH]
    exact((Ext.refl eN wf).set tZ aZ).set tZ (by exact aZ)
   ·rw[hH]
    exact((jQ.refl _ _).set wf hg aZ).set wf.set hg (by exact aZ)
end Go.Dm.Tc
/-
What functions of the library compute,part 7: elements taken out by a function.
-/
namespace Go.Dm.Tc
def Xf:DV:=.agg [.int .i64 0,.int .i64 0,.int .i64 0,.int .i64 0,.nsl,.int .i64 0,.bool false]
theorem l264(lo:Nat)(h:aA)(xs:List bM)(id g:Nat)(cap:List DV)(p:bM→Bool)(hl:xs.length≤1000000)(tZ:lo≤id)(bI:h.lim≤id)(aZ:id<h.n)(eN:lo≤h.n)
  (He:∃ s ys c,h.get id=some (.arr 70 s ys c))
  (DW:∀x∈xs,∀h',Ext lo h h'→fc D g ([bO x]++cap) h'=some (.bool (p x),h')) :
  ∀(rest:List bM) (j k:Nat) (kept zs:List bM) (f:eI) (H:aA),xs.drop j=rest→k<j→kept.length=k→zs.length=xs.length→zs.take k=kept→zs.drop j=rest→k<xs.length →
   H.get id=some (.arr 70 7 (zs.map bO) none)→f 0=.sl id 7 0 xs.length→f 1=.func g cap→f 5=.int .i64 k→f 6=.int .i64 j→Ext lo h H→jQ 70 h H→h.n≤H.n →
  ∃ v' h',fin [.t 4] (run D 42 [.block 0,.seq Xx] (.loop Nd) f H)=some (v',h')∧OwnR lo h' v' 70 7 ((kept++rest.filter (fun x=>!p x)).map bO)∧Ext lo h h'∧jQ 70 h h':=by
 obtain⟨s0,ys0,c0,He⟩:=He
 intro rest
 induction rest with
 | nil =>
  intro j k kept zs f H hd hkj RQ RH htk hdj Rg hg h0 h1 h5 h6 hx hK hn
  have hi:=iD hd
  have hnl:¬(j<xs.length):=by omega
  have hkl':k≤xs.length:=by omega
  have hd0:xs.length-k≠0:=by omega
  have wN:∀z,yS H 7 z (.sl id 7 k (xs.length-k))=some (.tup [],H.set id (.arr 70 7 (cF (zs.map bO) (List.replicate (xs.length-k) z) k) none)):=fun z=>wQ hg (by simp;omega) (by rw[hx.lim];exact bI) hd0
  have hltH:id<H.n:=by omega
  have hspl:∀zs':List DV,zs'.length=xs.length-k→cF (List.map bO zs) zs' k=kept.map bO++zs':=fun zs' hz=>by
   unfold cF
   rw[←List.map_take,htk,List.drop_eq_nil_of_le (by simp;omega),List.append_nil]
  have D5:(List.map bO kept++List.replicate (xs.length-k) Xf).length=xs.length:=by simp;omega
  rw[aJ Nd.eq_1]
  simp[Xx,h0,h5,h6,hnl,hg,RH,hkl',zW,wN,hx.wf,hltH,hspl]
  rw[show(DV.agg [.int .i64 0,.int .i64 0,.int .i64 0,.int .i64 0,.nsl,.int .i64 0,.bool false])=Xf from rfl]
  have hkl2:k≤kept.length+(xs.length-k):=by omega
  have hkl3:xs.length≤kept.length+(xs.length-k):=by omega
  simp[hkl2,hkl3]
  refine⟨_,_,⟨rfl,rfl⟩,.arr id (List.replicate (xs.length-k) Xf) none (by simp;omega) ?_ ?_ tZ,?_,?_⟩
  ·rw[cO hx.wf hltH,if_pos rfl]
  ·show H.lim≤id
   rw[hx.lim];exact bI
  ·exact hx.set tZ hltH
  ·exact hK.set hx.wf He hltH
 | cons e rest ih =>
  intro j k kept zs f H hd hkj RQ RH htk hdj Rg hg h0 h1 h5 h6 hx hK hn
  obtain⟨hi,he,pV⟩:=jO hd
  have hltH:id<H.n:=by omega
  have hnid:¬id=H.n:=by omega
  have hlimH:H.lim≤H.n:=by rw[hx.lim];omega
  have hlimI:H.lim≤id:=by rw[hx.lim];exact bI
  obtain⟨hjy,hyj,hdj'⟩:=jO hdj
  have hyj':(zs.map bO)[j]?=some (bO e):=by rw[List.getElem?_map,List.getElem?_eq_getElem hjy,hyj];rfl
  have Me:=DW e (by rw[←he];exact List.getElem_mem hi)
  simp only[bO]at Me
  have Iu:=hx.push (o:=.arr 70 7 [bO e] (some 1))
  have hgx1:=Me _ Iu
  simp only[bO,List.cons_append,List.nil_append]at hgx1
  simp only[bO,List.getElem?_map]at hyj'
  rw[aJ Nd.eq_1]
  have LP:∀q:Nat,q<xs.length→aQ 7 (.sl id 7 0 xs.length) (.int .i64 (q:Int))=some (.ptr id 7 q 0):=fun q hq=>by simp[aQ,asI,hq]
  have hkn':k<zs.length:=by omega
  have RI:(zs.map bO)[k]?=some (bO zs[k]):=by rw[List.getElem?_map,List.getElem?_eq_getElem hkn'];rfl
  simp only[bO,List.getElem?_map]at RI
  cases hp:p e with
  | true =>
   rw[hp]at hgx1
   simp[h0,h1,h5,h6,hi,LP,hg,hyj',hlimH,hgx1]
   rw[bG (by omega) (by omega)]
   have hf:(e::rest).filter (fun x=>!p x)=rest.filter (fun x=>!p x):=by simp[hp]
   rw[hf]
   rw[←List.map_append]
   refine ih (j+1) k kept zs _ (H.push (.arr 70 7 [bO e] (some 1))) pV (by omega) RQ RH htk hdj' Rg ?_ ?_ ?_ ?_ ?_ Iu hK.push (by show h.n≤H.n+1;omega)
   ·rw[cJ,if_neg hnid];exact hg
   all_goals simp[h0,h1,h5]
  | false =>
   rw[hp]at hgx1
   have Xd:IntKind.i64.wrap ((k:Int)+1)=(k:Int)+1:=bG (by omega) (by omega)
   have hw2:IntKind.i64.wrap ((j:Int)+1)=(j:Int)+1:=bG (by omega) (by omega)
   have hf:(e::rest).filter (fun x=>!p x)=e::rest.filter (fun x=>!p x):=by simp[hp]
   rw[hf,List.append_cons]
   generalize uD:kept++[e]=kept'
   simp[h0,h1,h5,h6,hi,LP,hg,hyj',hlimH,hgx1,Rg,RI,hlimI,hnid,Xd,hw2,turn,hltH]
   rw[←List.map_append]
   have wW:(List.map bO zs).set k (DV.agg [.int .i64 e.tree.bK,.int .i64 e.tree.seq,.int .i64 e.sub.bK,.int .i64 e.sub.seq,dY e.pred,.int .i64 e.lW,.bool e.up])=(zs.set k e).map bO:=by rw[List.map_set];rfl
   rw[wW]
   refine ih (j+1) (k+1) kept' (zs.set k e) _ ((H.set id (.arr 70 7 ((zs.set k e).map bO) none)).push (.arr 70 7 [bO e] (some 1))) pV (by omega) (by rw[←uD];simp[RQ]) (by simp[RH]) ?_ ?_ (by omega) ?_ ?_ ?_ ?_ ?_ ((hx.set tZ hltH).push) ((hK.set hx.wf He hltH).push) (by show h.n≤H.n+1;omega)
   ·rw[←uD,List.take_succ_eq_append_getElem (by simp;omega),List.take_set_of_le (by omega),htk];simp
   ·rw[List.drop_set_of_lt (by omega)];exact hdj'
   ·rw[cJ,if_neg (by exact hnid),cO hx.wf hltH,if_pos rfl]
   all_goals simp[h0,h1]
theorem BH{α:Type}{p:α→Bool}{xs:List α}{i:Nat}(h:xs.findIdx? p=some i):i<xs.length∧(xs.filter fun x=>!p x)=xs.take i++(xs.drop (i+1)).filter fun x=>!p x:=by
 obtain⟨hi,hp,hq⟩:=List.findIdx?_eq_some_iff_getElem.1 h
 refine⟨hi,?_⟩
 have h1:(xs.take i).filter (fun x=>!p x)=xs.take i:=by
  rw[List.filter_eq_self]
  intro a ha
  obtain⟨j,hj,rfl⟩:=List.mem_iff_getElem.1 ha
  rw[List.length_take]at hj
  have:=hq j (by omega)
  simpa using this
 have h2:(xs.drop i).filter (fun x=>!p x)=(xs.drop (i+1)).filter (fun x=>!p x):=by
  rw[List.drop_eq_getElem_cons hi,List.filter_cons,hp];simp
 calc xs.filter (fun x=>!p x)=(xs.take i++xs.drop i).filter (fun x=>!p x):=by rw[List.take_append_drop]
  _=_:=by rw[List.filter_append,h1,h2]
theorem JD{α:Type}{p:α→Bool}{xs:List α}(h:xs.findIdx? p=none):(xs.filter fun x=>!p x)=xs:=by
 rw[List.findIdx?_eq_none_iff]at h
 rw[List.filter_eq_self]
 intro a ha
 simp[h a ha]
theorem s264(lo:Nat)(h:aA)(v:DV)(xs:List bM)(g:Nat)(cap fB:List DV)(p:bM→Bool)(ho:Own lo h v 70 7 (xs.map bO))(hl:xs.length≤1000000)(wf:WF h)(eN:lo≤h.n)
  (hr:resolve true h 200 (.func g cap)=some (.func g fB))
  (hp1:∀x∈xs,∀h',fc D g ([bO x]++fB) h'=some (.bool (p x),h'))
  (DW:∀x∈xs,∀h',Ext lo h h'→fc D g ([bO x]++cap) h'=some (.bool (p x),h')) :
  ∃ v' h',fc D 264 [v,.func g cap] h=some (v',h')∧OwnR lo h' v' 70 7 ((xs.filter fun x=>!p x).map bO)∧Ext lo h h'∧jQ 70 h h':=by
 have xI:=fun t=>s222 t xs g fB p hp1 hl
 have OZ:=ho.resolve (n:=200) true (fun y _=>(fK y).1) (by decide)
 rw[e264,aM _ _ _ _ (by simp[V4])]
 cases hf:xs.findIdx? p with
 | none =>
  rw[hf]at xI
  simp[V4,p9,-Gd,hr,OZ,xI,qL]
  refine⟨_,_,⟨rfl,rfl⟩,?_,.refl eN wf,.refl _ _⟩
  rw[JD hf]
  exact ho.toR
 | some i =>
  rw[hf]at xI
  obtain⟨hi,hsp⟩:=BH hf
  have cT:¬((i:Int)=-1):=by omega
  have hw:IntKind.i64.wrap ((i:Int)+1)=(i:Int)+1:=bG (by omega) (by omega)
  cases ho with
  | nil hv hx =>
   have Ma:xs=[]:=List.map_eq_nil_iff.1 hx
   subst Ma
   simp at hi
  | arr id hv hg Iw tZ =>
   subst hv
   have aZ:=aC hg
   simp only[List.length_map]at OZ
   simp[V4,p9,-Gd,-Lj,hr,OZ,xI,qL,cT,hw]
   rw[hsp]
   refine l264 lo h xs id g cap p hl tZ Iw aZ eN ⟨_,_,_,hg⟩ DW _ (i+1) i (xs.take i) xs _ h rfl (by omega) (by simp;omega) rfl rfl rfl hi hg ?_ ?_ ?_ ?_ (.refl eN wf) (.refl _ _) (Nat.le_refl _)<;>simp
end Go.Dm.Tc
/-
What functions of the program compute,part 1: how advertisements are ordered and found.
-/
namespace Go.Dm.Tc
theorem Yw(a:Int):pcF D Bf [.int .i64 a]=some (.bool false):=by
 unfold pcF
 rw[aM _ _ _ _ (by simp[Bf])]
 simp[Bf]
def cmpI(a b:Int):Int:=if a<b then -1 else if b<a then 1 else 0
theorem UK(a b:Int):pcF D uJ [.int .i64 a,.int .i64 b]=some (.int .i64 (cmpI a b)):=by
 unfold pcF
 rw[aM _ _ _ _ (by simp[uJ])]
 by_cases h1:a<b
 ·simp[uJ,I8,Yw,h1,cmpI]
 ·by_cases h2:b<a
  ·simp[uJ,I8,Yw,h1,h2,cmpI]
  ·simp[uJ,I8,Yw,h1,h2,cmpI]
def orI(a b:Int):Int:=if a=0 then b else a
theorem UL(t:Bool)(a b:Int):pcF D Bg [.isl t 1 [.int .i64 a,.int .i64 b]]=some (.int .i64 (orI a b)):=by
 unfold pcF
 rw[aM _ _ _ _ (by simp[Bg])]
 simp[Bg]
 rw[aJ sP.eq_1]
 by_cases h1:a=0
 ·simp[h1,orI,aQ,asI]
  rw[aJ sP.eq_1]
  by_cases h2:b=0
  ·simp[h2,aQ,asI]
   rw[aJ sP.eq_1]
   simp[Fj]
  ·simp[h2,aQ,asI]
 ·simp[h1,orI,aQ,asI]
def dD(a b:ID):Int:=orI (cmpI a.bK b.bK) (cmpI a.seq b.seq)
theorem c9(a b c d:Int):pcF D W8 [.agg [.int .i64 a,.int .i64 b],.agg [.int .i64 c,.int .i64 d]]=some (.int .i64 (dD ⟨a,b⟩ ⟨c,d⟩)):=by
 unfold pcF
 rw[aM _ _ _ _ (by simp[W8])]
 simp[W8,WO,UK,WP,mkIsl,UL,dD]
def Bu(a b:ID):Bool:=decide (dD a b<0)
theorem s184(a b:Int)(p:dR)(q c d:Int):pcF D W4 [.agg [.int .i64 a,.int .i64 b,dY p,.int .i64 q],.agg [.int .i64 c,.int .i64 d]]=some (.int .i64 (dD ⟨a,b⟩ ⟨c,d⟩)):=by
 unfold pcF
 rw[aM _ _ _ _ (by simp[W4])]
 simp[W4,t6,c9]
def eC(l:List ID):Prop:=l.Pairwise fun a b=>dD a b<0
theorem gV{a b:ID}:dD a b<0↔a.bK<b.bK∨a.bK=b.bK∧a.seq<b.seq:=by
 unfold dD orI cmpI
 split<;>split<;>(try split)<;>(try split)<;>omega
theorem As{a b:ID}:dD a b=0↔a=b:=by
 cases a;cases b
 simp only[ID.mk.injEq]
 unfold dD orI cmpI
 simp only
 split<;>split<;>(try split)<;>(try split)<;>omega
theorem Dv{a b c:ID}(h1:dD a b<0)(h2:dD b c<0):dD a c<0:=by
 rw[gV]at *;omega
theorem CP(a b:ID):dD a b<0∨a=b∨dD b a<0:=by
 rw[gV,gV]
 cases a;cases b
 simp only[ID.mk.injEq]
 omega
theorem pG{α:Type}{key:α→ID}{xs:List α}(h:eC (xs.map key))(x:ID):∀i j (hi:i<xs.length) (hj:j<xs.length),i≤j→dD (key xs[j]) x<0→dD (key xs[i]) x<0:=by
 intro i j hi hj LO aZ
 rcases Nat.lt_or_eq_of_le LO with hl|rfl
 ·have:=List.pairwise_iff_getElem.1 h i j (by simpa using hi) (by simpa using hj) hl
  simp only[List.getElem_map]at this
  exact Dv this aZ
 ·exact aZ
theorem c7(x0 x1 x2 x4 x5:DV)(t:Bool)(l:List ID)(c d:Int)(hr:eC l)(hl:l.length≤1000000) :
  pcF D V8 [.agg [x0,x1,x2,eL t 2 eID l,x4,x5],.agg [.int .i64 c,.int .i64 d]]=some (.tup [.int .i64 (dQ (fun a=>dD a ⟨c,d⟩) l),.bool (pL (fun a=>dD a ⟨c,d⟩) l)]):=by
 have hb:=s276 t l c d 154 [] (fun a=>dD a ⟨c,d⟩) (fun x _ h=>by simp[eID,t6,c9]) hl (by
  have:=pG (key:=fun a:ID=>a) (xs:=l) (by simpa using hr) ⟨c,d⟩
  exact this)
 unfold pcF
 rw[aM _ _ _ _ (by simp[V8])]
 simp[V8,e276,hb,aU]
theorem s86(x0 x1 x3 x4 x5:DV)(t:Bool)(l:List cP)(c d:Int)(hr:eC (l.map (·.id)))(hl:l.length≤1000000) :
  pcF D t86 [.agg [x0,x1,eL t 4 aG l,x3,x4,x5],.agg [.int .i64 c,.int .i64 d]]=some (.tup [.int .i64 (dQ (fun a=>dD a.id ⟨c,d⟩) l),.bool (pL (fun a=>dD a.id ⟨c,d⟩) l)]):=by
 have hb:=s183 t l c d 184 [] (fun a=>dD a.id ⟨c,d⟩) (fun x _ h=>by simp[aG,e184,s184]) hl (pG hr ⟨c,d⟩)
 unfold pcF
 rw[aM _ _ _ _ (by simp[t86])]
 simp[t86,e183,hb,aU]
end Go.Dm.Tc
/-
What functions of the program compute,part 2: a broker with rows of its own;an advertisement learned.
-/
namespace Go.Dm.Tc
theorem s233(h:aA)(me:Int)(t1 t2 t3 t4 t5:Bool)(bB:List Int)(adv:List cP)(seen:List ID)(ent:List bM)(own:List Xa)
  (l1:bB.length≤1000000) (l2:adv.length≤1000000) (l3:seen.length≤1000000) (l4:ent.length≤1000000) (l5:own.length≤1000000) (wf:WF h) (bI:h.lim≤h.n) :
  ∃ v1 v2 v3 v4 v5 h',fc D 233 [.agg [.int .i64 me,eL t1 1 bW bB,eL t2 4 aG adv,eL t3 2 eID seen,eL t4 7 bO ent,eL t5 3 pQ own]] h=some (.agg [.int .i64 me,v1,v2,v3,v4,v5],h') ∧
   Own h.n h' v1 3 1 (bB.map bW)∧Own h.n h' v2 68 4 (adv.map aG)∧Own h.n h' v3 45 2 (seen.map eID)∧Own h.n h' v4 70 7 (ent.map bO)∧Own h.n h' v5 134 3 (own.map pQ)∧Ext h.n h h':=by
 rw[e233,aM _ _ _ _ (by simp[FD])]
 have hm:max (h.n+1+1) h.lim=h.n+2:=by omega
 simp[FD,e88,hm]
 generalize hA:bJ _ _ _ _ _=A
 obtain⟨v1,H1,rfl,o1,x1,y1⟩:=nM (lo:=h.n+2) hA (fY ..) wf.push.push (by simp) (by simp) (by simp;omega) (by simp;omega) (by decide)
 have Ma:Ext h.n h ((h.push (.arr 37 6 [.agg [.int .i64 me,eL t1 1 bW bB,eL t2 4 aG adv,eL t3 2 eID seen,eL t4 7 bO ent,eL t5 3 pQ own]] (some 1))).push (.arr 37 6 [.agg [.int .i64 0,.nsl,.nsl,.nsl,.nsl,.nsl]] (some 1))):=(Ext.refl (Nat.le_refl _) wf).push.push
 have z1:=Ma.trans (x1.lower (by omega:h.n≤h.n+2))
 clear hA
 simp at x1 y1 z1 o1
 generalize hK1:wl H1 _=K1 at *
 have a1:=x1.get h.n (by omega)
 have b1:=x1.get (h.n+1) (by omega)
 have q1:=x1.lim
 have w1:=x1.wf
 have n1:=x1.le
 simp at a1 b1 q1
 simp[hK1,a1,q1,hm,e89]
 generalize hA:bJ _ _ _ _ _=A
 obtain⟨v2,H2,rfl,o2,x2,y2⟩:=nM (lo:=h.n+2) hA (fY ..) w1 n1 n1 (by omega) (by simp;omega) (by decide)
 rw[q1]at o2 x2 y2
 have z2:=z1.trans (x2.lower (by omega:h.n≤h.n+2))
 replace o1:=o1.ext y2
 clear hA
 generalize hK2:wl H2 _=K2 at *
 have a2:=x2.get h.n (by omega)
 have b2:=x2.get (h.n+1) (by omega)
 have q2:=x2.lim
 have w2:=x2.wf
 have n2:=x2.le
 rw[a1]at a2
 rw[b1]at b2
 rw[q1]at q2
 simp[hK2,a2,q1,q2,hm,e90]
 generalize hA:bJ _ _ _ _ _=A
 obtain⟨v3,H3,rfl,o3,x3,y3⟩:=nM (lo:=h.n+2) hA (fY ..) w2 n2 n2 (by omega) (by simp;omega) (by decide)
 rw[q2]at o3 x3 y3
 have z3:=z2.trans (x3.lower (by omega:h.n≤h.n+2))
 replace o1:=o1.ext y3
 replace o2:=o2.ext y3
 clear hA
 generalize hK3:wl H3 _=K3 at *
 have a3:=x3.get h.n (by omega)
 have b3:=x3.get (h.n+1) (by omega)
 have q3:=x3.lim
 have w3:=x3.wf
 have n3:=x3.le
 rw[a2]at a3
 rw[b2]at b3
 rw[q2]at q3
 simp[hK3,a3,q2,q3,hm,e91]
 generalize hA:bJ _ _ _ _ _=A
 obtain⟨v4,H4,rfl,o4,x4,y4⟩:=nM (lo:=h.n+2) hA (fY ..) w3 n3 n3 (by omega) (by simp;omega) (by decide)
 rw[q3]at o4 x4 y4
 have z4:=z3.trans (x4.lower (by omega:h.n≤h.n+2))
 replace o1:=o1.ext y4
 replace o2:=o2.ext y4
 replace o3:=o3.ext y4
 clear hA
 generalize hK4:wl H4 _=K4 at *
 have a4:=x4.get h.n (by omega)
 have b4:=x4.get (h.n+1) (by omega)
 have q4:=x4.lim
 have w4:=x4.wf
 have n4:=x4.le
 rw[a3]at a4
 rw[b3]at b4
 rw[q3]at q4
 simp[hK4,a4,q3,q4,hm,e92]
 generalize hA:bJ _ _ _ _ _=A
 obtain⟨v5,K5,rfl,o5,x5,y5⟩:=sF (lo:=h.n+2) (fY ..) w4 n4 (by omega) (by simp;omega) (by decide) hA
 have z5:=z4.trans (x5.lower (by omega:h.n≤h.n+2))
 replace o1:=o1.ext y5
 replace o2:=o2.ext y5
 replace o3:=o3.ext y5
 replace o4:=o4.ext y5
 clear hA
 have a5:=x5.get h.n (by omega)
 have b5:=x5.get (h.n+1) (by omega)
 have q5:=x5.lim
 have w5:=x5.wf
 have n5:=x5.le
 rw[a4]at a5
 rw[b4]at b5
 rw[q4]at q5
 have c5:h.n<K5.n:=by omega
 have d5:h.n+1<K5.n:=by omega
 have f5:h.lim≤h.n+1:=by omega
 simp[a5,b5,q5,w5,c5,d5,f5,bI,o1.aO,o2.aO,o3.aO,o4.aO,o5.aO,o1.aF,o2.aF,o3.aF,o4.aF,o5.aF,turn]
 refine⟨v1,v2,v3,v4,v5,_,⟨⟨rfl,rfl,rfl,rfl,rfl⟩,rfl⟩,?_,?_,?_,?_,?_,?_⟩
 ·exact((o1.aR w5 (by omega) c5).aR w5.set (by omega) d5).lower (by omega)
 ·exact((o2.aR w5 (by omega) c5).aR w5.set (by omega) d5).lower (by omega)
 ·exact((o3.aR w5 (by omega) c5).aR w5.set (by omega) d5).lower (by omega)
 ·exact((o4.aR w5 (by omega) c5).aR w5.set (by omega) d5).lower (by omega)
 ·exact((o5.aR w5 (by omega) c5).aR w5.set (by omega) d5).lower (by omega)
 ·exact(z5.set (by omega) c5).set (by omega) d5
end Go.Dm.Tc
/-
What functions of the program compute,part 3: an advertisement learned,found.
-/
namespace Go.Dm.Tc
section
variable {α:Type} (key:α→ID)
def tV(a:α)(l:List α):List α:=l.take (dQ (fun b=>dD (key b) (key a)) l)++a::l.drop (dQ (fun b=>dD (key b) (key a)) l)
theorem Fz{l:List α}(h:eC (l.map key))(x:ID):(∀i (hi:i<l.length),i<dQ (fun b=>dD (key b) x) l→dD (key l[i]) x<0)∧(∀i (hi:i<l.length),dQ (fun b=>dD (key b) x) l≤i→¬dD (key l[i]) x<0):=by
 constructor
 ·intro i hi aZ
  have:=List.not_of_lt_findIdx (p:=fun b=>!decide (dD (key b) x<0)) aZ
  simpa using this
 ·intro i hi cB hc
  have hk:dQ (fun b=>dD (key b) x) l<l.length:=Nat.lt_of_le_of_lt cB hi
  have h1:¬dD (key l[dQ (fun b=>dD (key b) x) l]) x<0:=by
   have:=List.findIdx_getElem (p:=fun b=>!decide (dD (key b) x<0)) (w:=hk)
   unfold dQ
   simpa using this
  exact h1 (pG h x _ _ hk hi cB hc)
theorem Hf{l:List α}(h:eC (l.map key))(x:ID):match l.find? (fun b=>key b=x)with
  | some a=>pL (fun b=>dD (key b) x) l=true∧l[dQ (fun b=>dD (key b) x) l]?=some a
  | none=>pL (fun b=>dD (key b) x) l=false:=by
 obtain⟨r1,r2⟩:=Fz key h x
 have yF:∀i j (hi:i<l.length) (hj:j<l.length),key l[i]=x→key l[j]=x→i=j:=by
  intro i j hi hj e1 e2
  rcases Nat.lt_trichotomy i j with aZ|he|aZ
  ·have:=List.pairwise_iff_getElem.1 h i j (by simpa using hi) (by simpa using hj) aZ
   simp only[List.getElem_map,e1,e2]at this
   rw[gV]at this;omega
  ·exact he
  ·have:=List.pairwise_iff_getElem.1 h j i (by simpa using hj) (by simpa using hi) aZ
   simp only[List.getElem_map,e1,e2]at this
   rw[gV]at this;omega
 cases hf:l.find? (fun b=>key b=x)with
 | some a =>
  have hax:key a=x:=by simpa using List.find?_some hf
  obtain⟨i,hi,LP⟩:=List.mem_iff_getElem.1 (List.mem_of_find?_eq_some hf)
  have hk:dQ (fun b=>dD (key b) x) l=i:=by
   refine Bv (Nat.le_of_lt hi) (fun q hq=>?_) (fun hq=>?_)
   ·have:=List.pairwise_iff_getElem.1 h q i (by simp;omega) (by simpa using hi) hq
    simp only[List.getElem_map,LP,hax]at this
    exact this
   ·rw[LP,hax,gV];omega
  have VY:l[dQ (fun b=>dD (key b) x) l]?=some a:=by rw[hk,List.getElem?_eq_getElem hi,LP]
  refine⟨?_,VY⟩
  unfold pL
  rw[VY]
  simp only[hax]
  simp[As]
 | none =>
  unfold pL
  cases hg:l[dQ (fun b=>dD (key b) x) l]? with
  | none=>rfl
  | some a =>
   have:key a≠x:=by
    have:=List.find?_eq_none.1 hf a (List.mem_of_getElem? hg)
    simpa using this
   simp only[decide_eq_false_iff_not]
   rw[As];exact this
end
theorem PL{l:List ID}(hr:eC l)(x:ID):pL (fun b=>dD b x) l=decide (x∈l):=by
 have hf:=Hf (fun a:ID=>a) (by simpa using hr) x
 cases hq:l.find? (fun a=>a=x)with
 | none =>
  rw[hq]at hf
  simp only at hf
  rw[hf]
  have:=List.find?_eq_none.1 hq
  symm
  simp only[decide_eq_false_iff_not]
  intro hm
  exact this x hm (by simp)
 | some a =>
  rw[hq]at hf
  rw[hf.1]
  have h1:a=x:=by simpa using List.find?_some hq
  have h2:=List.mem_of_find?_eq_some hq
  rw[h1]at h2
  simp[h2]
def nP(b:aL)(x:ID):Option cP:=b.aY.find? fun a=>a.id=x
def Au:cP:=⟨⟨0,0⟩,[],0⟩
def JM{α:Type}:Option α→Bool|some _=>true|none=>false
theorem s30(x0 x1 x3 x4 x5:DV)(t:Bool)(l:List cP)(c d:Int)(hr:eC (l.map (·.id)))(hl:l.length≤1000000)(f0:kJ 20 x0)(f1:kJ 20 x1)(f3:kJ 20 x3)(f4:kJ 20 x4)(f5:kJ 20 x5) :
  pcF D t30 [.agg [x0,x1,eL t 4 aG l,x3,x4,x5],.agg [.int .i64 c,.int .i64 d]]=some (.tup [aG ((l.find? fun a=>a.id=⟨c,d⟩).getD Au),.bool (JM (l.find? fun a=>a.id=⟨c,d⟩))]):=by
 have hf:=Hf (fun a:cP=>a.id) hr ⟨c,d⟩
 unfold pcF
 rw[aM _ _ _ _ (by simp[t30])]
 have g0:∀h,resolve true h 199 x0=some x0:=fun h=>f0 _ _ _ (by decide)
 have g1:∀h,resolve true h 199 x1=some x1:=fun h=>f1 _ _ _ (by decide)
 have g3:∀h,resolve true h 199 x3=some x3:=fun h=>f3 _ _ _ (by decide)
 have g4:∀h,resolve true h 199 x4=some x4:=fun h=>f4 _ _ _ (by decide)
 have g5:∀h,resolve true h 199 x5=some x5:=fun h=>f5 _ _ _ (by decide)
 cases hq:l.find? (fun a=>a.id=⟨c,d⟩)with
 | none =>
  rw[hq]at hf
  simp at hf
  simp[t30,e86,s86,g0,g1,g3,g4,g5,hr,hl,hf,hq,aG,Au,JM,aU]
  rfl
 | some a =>
  rw[hq]at hf
  simp at hf
  simp[t30,e86,s86,g0,g1,g3,g4,g5,hr,hl,hf.1,hf.2,hq,aG,JM,aU]
structure Wz(b:aL):Prop where
 bB:b.bB.length≤100000
 adv:b.aY.length≤100000
 seen:b.seen.length≤100000
 ent:b.entries.length≤100000
 own:b.kR.length≤100000
def dF(b:aL)(a:cP):aL×Bool :=
 if a.id∈b.seen then(b,false)else({b with aY:=tV (fun a=>a.id) a b.aY,seen:=tV (fun x=>x) a.id b.seen},true)
theorem d9{h:aA}{A:Option (DV×aA)}{me:Int}{t1 t2 t3 t4 t5:Bool}{bB:List Int}{adv:List cP}{seen:List ID}{ent:List bM}{own:List Xa}(hA:fc D 233 [.agg [.int .i64 me,eL t1 1 bW bB,eL t2 4 aG adv,eL t3 2 eID seen,eL t4 7 bO ent,eL t5 3 pQ own]] h=A)
  (hs:Wz ⟨me,bB,adv,seen,ent,own⟩) (wf:WF h) (bI:h.lim≤h.n) :
  ∃ v1 v2 v3 v4 v5 h',A=some (.agg [.int .i64 me,v1,v2,v3,v4,v5],h') ∧
   Own h.n h' v1 3 1 (bB.map bW)∧Own h.n h' v2 68 4 (adv.map aG)∧Own h.n h' v3 45 2 (seen.map eID)∧Own h.n h' v4 70 7 (ent.map bO)∧Own h.n h' v5 134 3 (own.map pQ)∧Ext h.n h h':=by
 subst hA
 obtain⟨z1,z2,z3,z4,z5⟩:=hs
 simp only at z1 z2 z3 z4 z5
 exact s233 h me t1 t2 t3 t4 t5 bB adv seen ent own (by omega) (by omega) (by omega) (by omega) (by omega) wf bI
theorem s174(t:iE)(b:aL)(c d:Int)(p:dR)(q:Int)(hs:Wz b)(ra:eC (b.aY.map (·.id)))(rs:eC b.seen) :
  pcF D W7 [aW t b,.agg [.int .i64 c,.int .i64 d,dY p,.int .i64 q]]=some (.tup [aW .none (dF b ⟨⟨c,d⟩,p,q⟩).1,.bool (dF b ⟨⟨c,d⟩,p,q⟩).2]):=by
 obtain⟨me,bB,adv,seen,ent,own⟩:=b
 unfold pcF
 rw[aM _ _ _ _ (by simp[W7])]
 simp[W7,aW]
 generalize hA:fc D _ _ _=A
 obtain⟨v1,v2,v3,v4,v5,K,rfl,o1,o2,o3,o4,o5,x⟩:=d9 hA hs (by simp) (by simp)
 simp at o1 o2 o3 o4 o5 x
 clear hA
 have a0:=x.get 0 (by decide)
 have a1:=x.get 1 (by decide)
 have a2:=x.get 2 (by decide)
 have q0:=x.lim
 have w0:=x.wf
 have n0:=x.le
 simp at a0 a1 a2 q0
 have l0:0<K.n:=by omega
 have l2:2<K.n:=by omega
 have r1:∀o,resolve true (K.set 0 o) 199 v1=some (eL true 1 bW bB):=fun o=>(o1.aR w0 (by decide) l0).resolve true (fun y _=>(fD y).1) (by decide)
 have r2:∀o,resolve true (K.set 0 o) 199 v2=some (eL true 4 aG adv):=fun o=>(o2.aR w0 (by decide) l0).resolve true (fun y _=>(fI y).1) (by decide)
 have r3:∀o,resolve true (K.set 0 o) 199 v3=some (eL true 2 eID seen):=fun o=>(o3.aR w0 (by decide) l0).resolve true (fun y _=>(kD y).1) (by decide)
 have r4:∀o,resolve true (K.set 0 o) 199 v4=some (eL true 7 bO ent):=fun o=>(o4.aR w0 (by decide) l0).resolve true (fun y _=>(fK y).1) (by decide)
 have r5:∀o,resolve true (K.set 0 o) 199 v5=some (eL true 3 pQ own):=fun o=>(o5.aR w0 (by decide) l0).resolve true (fun y _=>(jH y).1) (by decide)
 have D5:seen.length≤1000000:=by have:=hs.seen;simp only at this;omega
 have BP:adv.length≤1000000:=by have:=hs.adv;simp only at this;omega
 simp only at ra rs
 have hh:=PL rs ⟨c,d⟩
 obtain⟨R,hR⟩:∃ R,R=DV.tup [aW .none (dF ⟨me,bB,adv,seen,ent,own⟩ ⟨⟨c,d⟩,p,q⟩).1,.bool (dF ⟨me,bB,adv,seen,ent,own⟩ ⟨⟨c,d⟩,p,q⟩).2]:=⟨_,rfl⟩
 simp only[aW]at hR
 rw[←hR]
 by_cases hm:(⟨c,d⟩:ID)∈seen
 ·have r1':∀o o',resolve false ((K.set 0 o).set 2 o') 198 v1=some (eL false 1 bW bB):=fun o o'=>((o1.aR w0 (by decide) l0).aR w0.set (by decide) l2).resolve false (fun y _=>(fD y).1) (by decide)
  have r2':∀o o',resolve false ((K.set 0 o).set 2 o') 198 v2=some (eL false 4 aG adv):=fun o o'=>((o2.aR w0 (by decide) l0).aR w0.set (by decide) l2).resolve false (fun y _=>(fI y).1) (by decide)
  have r3':∀o o',resolve false ((K.set 0 o).set 2 o') 198 v3=some (eL false 2 eID seen):=fun o o'=>((o3.aR w0 (by decide) l0).aR w0.set (by decide) l2).resolve false (fun y _=>(kD y).1) (by decide)
  have r4':∀o o',resolve false ((K.set 0 o).set 2 o') 198 v4=some (eL false 7 bO ent):=fun o o'=>((o4.aR w0 (by decide) l0).aR w0.set (by decide) l2).resolve false (fun y _=>(fK y).1) (by decide)
  have r5':∀o o',resolve false ((K.set 0 o).set 2 o') 198 v5=some (eL false 3 pQ own):=fun o o'=>((o5.aR w0 (by decide) l0).aR w0.set (by decide) l2).resolve false (fun y _=>(jH y).1) (by decide)
  simp[a0,a1,a2,q0,w0,l0,l2,q9,c7,r1,r2,r3,r4,r5,r1',r2',r3',r4',r5',rs,D5,hh,hm,aU]
  simp[hR,dF,hm,iE.none]
 ·simp[a0,a1,a2,q0,w0,l0,l2,q9,c7,e86,s86,r1,r2,r3,r4,r5,rs,ra,D5,BP,hh,hm]
  generalize hA:fc D _ _ _=A
  obtain⟨v2',K2,rfl,p2,x2,k2⟩:=q234 hA 3 adv ⟨⟨c,d⟩,p,q⟩ (vety:=68) (c:=1) (o2.aR w0 (by decide) l0).push (by simp[aG]) (wJ _ _) BP (by simp[w0]) (by simp;omega) (by simp[q0])
  clear hA
  have b0:=x2.get 0 (by decide)
  have b1:=x2.get 1 (by decide)
  have b2:=x2.get 2 (by decide)
  have q2:=x2.lim
  have w2:=x2.wf
  have m2:=x2.le
  have z0:¬0=K.n:=by omega
  have z1:¬1=K.n:=by omega
  have z2:¬2=K.n:=by omega
  simp[a1,a2,w0,l0,q0,z0,z1,z2]at b0 b1 b2 q2
  have p1:=(((o1.aR w0 (by decide) l0).push).keep k2 x2.lim (by decide))
  have p3:=(((o3.aR w0 (by decide) l0).push).keep k2 x2.lim (by decide))
  have p4:=(((o4.aR w0 (by decide) l0).push).keep k2 x2.lim (by decide))
  have p5:=(((o5.aR w0 (by decide) l0).push).keep k2 x2.lim (by decide))
  have m0:0<K2.n:=by omega
  have m22:2<K2.n:=by omega
  simp[b0,b1,b2,q2,w2,m0,m22,p2.aO,p2.aF,turn]
  generalize hA:fc D _ _ _=A
  obtain⟨v3',K3,rfl,p3',x3,k3⟩:=q235 hA 3 seen ⟨c,d⟩ (vety:=45) (c:=1) (p3.aR w2 (by decide) m0).push (by simp[eID]) (wJ _ _) D5 (by simp[w2]) (by simp;omega) (by simp[q2])
  clear hA
  have c0:=x3.get 0 (by decide)
  have c1:=x3.get 1 (by decide)
  have c2:=x3.get 2 (by decide)
  have q3:=x3.lim
  have w3:=x3.wf
  have m3:=x3.le
  have y0:¬0=K2.n:=by omega
  have y1:¬1=K2.n:=by omega
  have y2:¬2=K2.n:=by omega
  simp[b1,b2,w2,m0,q2,y0,y1,y2]at c0 c1 c2 q3
  have m30:0<K3.n:=by omega
  have m32:2<K3.n:=by omega
  replace p1:=((p1.aR w2 (by decide) m0).push).keep k3 x3.lim (by decide)
  replace p2:=((p2.aR w2 (by decide) m0).push).keep k3 x3.lim (by decide)
  replace p4:=((p4.aR w2 (by decide) m0).push).keep k3 x3.lim (by decide)
  replace p5:=((p5.aR w2 (by decide) m0).push).keep k3 x3.lim (by decide)
  have r1':∀o o',resolve false ((K3.set 0 o).set 2 o') 198 v1=some (eL false 1 bW bB):=fun o o'=>((p1.aR w3 (by decide) m30).aR w3.set (by decide) m32).resolve false (fun y _=>(fD y).1) (by decide)
  have r2':=fun o o'=>((p2.aR (o:=o) w3 (by decide) m30).aR (o:=o') w3.set (by decide) m32).resolve (n:=198) false (fun y _=>(fI y).1) (by decide)
  have r3':=fun o o'=>((p3'.aR (o:=o) w3 (by decide) m30).aR (o:=o') w3.set (by decide) m32).resolve (n:=198) false (fun y _=>(kD y).1) (by decide)
  have r4':∀o o',resolve false ((K3.set 0 o).set 2 o') 198 v4=some (eL false 7 bO ent):=fun o o'=>((p4.aR w3 (by decide) m30).aR w3.set (by decide) m32).resolve false (fun y _=>(fK y).1) (by decide)
  have r5':∀o o',resolve false ((K3.set 0 o).set 2 o') 198 v5=some (eL false 3 pQ own):=fun o o'=>((p5.aR w3 (by decide) m30).aR w3.set (by decide) m32).resolve false (fun y _=>(jH y).1) (by decide)
  simp[c0,c1,c2,q3,w3,m30,m32,p3'.aO,p3'.aF,turn,r1',r2',r3',r4',r5',aU]
  simp[hR,dF,hm,iE.none,tV]
end Go.Dm.Tc
/-
What functions of the program compute,part 4: are two brokers the same?
-/
namespace Go.Dm.Tc
structure SizedP(b:aL):Prop where
 adv:∀x∈b.aY,x.pred.length≤1000000
 ent:∀x∈b.entries,x.pred.length≤1000000
 own:∀x∈b.kR,x.pred.length≤1000000
end Go.Dm.Tc
/-
What functions of the program compute,part 5: the statements' own comparisons of brokers.
-/
namespace Go.Dm.Tc
end Go.Dm.Tc
/-
What functions of the statements' own packages compute: numbers brought into bounds;predicates Eb of numbers;a broker copied.
-/
namespace Go.Dm.Tc
def bY(n lo hi:Int):Int:=if n.tmod (hi-lo+1)<0 then lo+(n.tmod (hi-lo+1)+hi-lo+1)else lo+n.tmod (hi-lo+1)
theorem mW(n:Int){lo hi:Int}(h:lo≤hi):lo≤bY n lo hi∧bY n lo hi≤hi:=by
 have h1:0<hi-lo+1:=by omega
 have h2:=Int.tmod_lt_of_pos n h1
 have h3:-(hi-lo+1)<n.tmod (hi-lo+1):=by
  have:=Int.lt_tmod_of_pos n h1
  omega
 unfold bY
 split<;>omega
theorem s10(n lo hi:Int)(h:lo≤hi)(eN:-1000000000≤lo)(Pz:hi≤1000000000):pcF D t10 [.int .i64 n,.int .i64 lo,.int .i64 hi]=some (.int .i64 (bY n lo hi)):=by
 unfold pcF
 rw[aM _ _ _ _ (by simp[t10])]
 have h1:0<hi-lo+1:=by omega
 have h2:=Int.tmod_lt_of_pos n h1
 have h3:-(hi-lo+1)<n.tmod (hi-lo+1):=by
  have:=Int.lt_tmod_of_pos n h1
  omega
 have w1:IntKind.i64.wrap (hi-lo)=hi-lo:=bG (by omega) (by omega)
 have w2:IntKind.i64.wrap (hi-lo+1)=hi-lo+1:=bG (by omega) (by omega)
 have cT:hi-lo+1≠0:=by omega
 have hr:bQ .rem (.int .i64 n) (.int .i64 (hi-lo+1))=some (.int .i64 (n.tmod (hi-lo+1))):=by simp[bQ,cT]
 by_cases Pv:n.tmod (hi-lo+1)<0
 ·have w3:IntKind.i64.wrap (n.tmod (hi-lo+1)+hi)=n.tmod (hi-lo+1)+hi:=bG (by omega) (by omega)
  have w4:IntKind.i64.wrap (n.tmod (hi-lo+1)+hi-lo)=n.tmod (hi-lo+1)+hi-lo:=bG (by omega) (by omega)
  have w5:IntKind.i64.wrap (n.tmod (hi-lo+1)+hi-lo+1)=n.tmod (hi-lo+1)+hi-lo+1:=bG (by omega) (by omega)
  have w6:IntKind.i64.wrap (lo+(n.tmod (hi-lo+1)+hi-lo+1))=lo+(n.tmod (hi-lo+1)+hi-lo+1):=bG (by omega) (by omega)
  simp[t10,w1,w2,hr,Pv,w3,w4,w5,w6,bY]
 ·have w6:IntKind.i64.wrap (lo+n.tmod (hi-lo+1))=lo+n.tmod (hi-lo+1):=bG (by omega) (by omega)
  simp[t10,w1,w2,hr,Pv,w6,bY]
def rB:List (List UInt8):=[[97],[98],[99],[100],[101],[102],[103]]
def uI:List (List UInt8):=[[],[120],[120,121],[120,121,122],[120,122],[121],[121,121]]
theorem s80:pcF D t80 []=some (eL false 1 Qk rB):=by
 unfold pcF
 rw[aM _ _ _ _ (by simp[t80])]
 simp[t80,List.replicate]
 exact⟨rfl,rfl⟩
theorem c8:pcF D W6 []=some (eL false 1 Qk uI):=by
 unfold pcF
 rw[aM _ _ _ _ (by simp[W6])]
 simp[W6,List.replicate]
 exact⟨rfl,rfl⟩
def nA(l:List Int)(i:Nat):Int:=if l.length=0 then 0 else l.getD (i % l.length) 0
theorem s72(t:Bool)(l:List Int)(i:Nat):pcF D t72 [eL t 1 bW l,.int .i64 i]=some (.int .i64 (nA l i)):=by
 unfold pcF
 rw[aM _ _ _ _ (by simp[t72])]
 cases l with
 | nil=>simp[t72,nA]
 | cons x l =>
  have cT:((l.length:Int)+1)≠0:=by omega
  have hr:bQ .rem (.int .i64 (i:Int)) (.int .i64 ((l.length:Int)+1))=some (.int .i64 ((i % (l.length+1):Nat):Int)):=by
   simp only[bQ,if_true,if_neg cT]
   congr 2
  have aZ:i % (l.length+1)<(x::l).length:=by simp;exact Nat.mod_lt _ (by omega)
  simp[t72,hr,-Int.natCast_emod,List.getElem?_eq_getElem aZ,bW,nA,cT]
def nT(name:List UInt8)(n:Int):yX :=
 if bY n 0 3=0∨bY n 0 3=1 then⟨name,1,bY (IntKind.i64.wrap (n.tdiv 4)) 0 9,bY (IntKind.i64.wrap (n.tdiv 4)) 0 9+bY (IntKind.i64.wrap (n.tdiv 40)) 0 9,[]⟩
 else⟨name,if bY n 0 3=2 then 2 else 3,0,0,uI.getD (bY (IntKind.i64.wrap (n.tdiv 4)) 0 6).toNat []⟩
theorem s81(name:List UInt8)(n:Int):pcF D t81 [.str name,.int .i64 n]=some (fZ (nT name n)):=by
 unfold pcF
 rw[aM _ _ _ _ (by simp[t81])]
 have w0:=s10 n 0 3 (by decide) (by decide) (by decide)
 have w1:=fun m=>s10 m 0 9 (by decide) (by decide) (by decide)
 have w2:=fun m=>s10 m 0 6 (by decide) (by decide) (by decide)
 have hq4:bQ .quo (.int .i64 n) (.int .i64 4)=some (.int .i64 (IntKind.i64.wrap (n.tdiv 4))):=rfl
 have hq40:bQ .quo (.int .i64 n) (.int .i64 40)=some (.int .i64 (IntKind.i64.wrap (n.tdiv 40))):=rfl
 by_cases h01:bY n 0 3=0∨bY n 0 3=1
 ·have b1:=mW (IntKind.i64.wrap (n.tdiv 4)) (show(0:Int)≤9 by decide)
  have b2:=mW (IntKind.i64.wrap (n.tdiv 40)) (show(0:Int)≤9 by decide)
  have w3:IntKind.i64.wrap (bY (IntKind.i64.wrap (n.tdiv 4)) 0 9+bY (IntKind.i64.wrap (n.tdiv 40)) 0 9)=bY (IntKind.i64.wrap (n.tdiv 4)) 0 9+bY (IntKind.i64.wrap (n.tdiv 40)) 0 9:=bG (by omega) (by omega)
  rcases h01 with h0|h1
  ·simp[t81,e10,w0,w1,hq4,hq40,h0,turn]
   rw[w3]
   simp[nT,fZ,h0]
  ·simp[t81,e10,w0,w1,hq4,hq40,h1,turn]
   rw[w3]
   simp[nT,fZ,h1]
 ·have b1:=mW (IntKind.i64.wrap (n.tdiv 4)) (show(0:Int)≤6 by decide)
  have aZ:(bY (IntKind.i64.wrap (n.tdiv 4)) 0 6).toNat<uI.length:=by simp[uI];omega
  obtain⟨tx,hx⟩:∃ tx,uI[(bY (IntKind.i64.wrap (n.tdiv 4)) 0 6).toNat]?=some tx:=⟨_,List.getElem?_eq_getElem aZ⟩
  have h0:¬bY n 0 3=0:=fun h=>h01 (.inl h)
  have h1:¬bY n 0 3=1:=fun h=>h01 (.inr h)
  by_cases h2:bY n 0 3=2
  ·simp[t81,e10,w0,w2,hq4,h0,h1,h2,turn,s7,c8,b1.1,hx,Qk]
   simp[nT,fZ,h0,h1,h2,hx]
  ·simp[t81,e10,w0,w2,hq4,h0,h1,h2,turn,s7,c8,b1.1,hx,Qk]
   simp[nT,fZ,h0,h1,h2,hx]
end Go.Dm.Tc
/-
What functions of the statements' own packages compute: predicates Eb of numbers.
-/
namespace Go.Dm.Tc
def XD(n:Int):Int:=IntKind.i64.wrap ((BitVec.ofInt 64 n &&& BitVec.ofInt 64 1).toNat:Int)
def UX(n:Int):Bool:=decide (XD n=1)
def eW(has vals:List Int):List (List UInt8)→Nat→dR→dR
 | [],_,iR=>iR
 | nm::r,i,iR=>if i<has.length∧UX (has.getD i 0)=true∧iR.length<5 then eW has vals r (i+1) (iR++[nT nm (nA vals i)])else eW has vals r (i+1) iR
def Br(has vals:List Int):dR:=eW has vals rB 0 []
theorem Ra(n:Int):bQ .and (.int .i64 n) (.int .i64 1)=some (.int .i64 (XD n)):=rfl
theorem HM{lo:Nat}{h:aA}{v:DV}{ety:Nat}{ys:List yX}(w:Own lo h v ety 5 (ys.map fZ)):jS (some (v,h))=some (dY ys):=w.out (fun y _=>(Lm y).1.mono (by decide)) (fun y _=>(Lm y).2.mono (by decide)) (k:=22) (by decide)
theorem l26(th tv:Bool)(has vals:List Int)(tp:Nat)(h0:aA)(g0:h0.get 0=some (.arr tp 2 [.agg [eL th 1 bW has,eL tv 1 bW vals]] (some 1)))(bI:h0.lim=0)(hl:has.length≤9223372036854775807) :
  ∀(rest:List (List UInt8)) (iR:dR) (i:Nat) (f:eI) (h:aA),rB.drop i=rest→iR.length≤i→f 1=.ptr 0 2 0 0→f 6=eL false 1 Qk rB→f 7=.int .i64 7→f 8=.int .i64 i→Own 1 h (f 3) 94 5 (iR.map fZ)→Ext 1 h0 h →
  jS (fin [.t 2] (run D 43 [.block 0,.seq FB] (.loop N6) f h))=some (dY (eW has vals rest i iR)):=by
 intro rest
 induction rest with
 | nil =>
  intro iR i f h hd ha h1 h6 h7 h8 ho hx
  have hi:=iD hd
  have:¬((i:Int)<7):=by simp[rB]at hi;omega
  rw[aJ N6.eq_1]
  simp[FB,h7,h8,this,eW]
  exact HM ho
 | cons nm rest ih =>
  intro iR i f h hd ha h1 h6 h7 h8 ho hx
  obtain⟨hi,he,pV⟩:=jO hd
  have hi7:i<7:=by simpa[rB]using hi
  have aZ:(i:Int)<7:=by omega
  have Hg:=(hx.get 0 (by decide)).trans g0
  have w1:IntKind.i64.wrap ((i:Int)+1)=(i:Int)+1:=bG (by omega) (by omega)
  have VT:=s72 tv vals i
  have bZ:lenV h 1 (f 3)=some (.int .i64 (iR.length:Int)):=by simpa using ho.lenV
  rw[aJ N6.eq_1]
  by_cases c1:i<has.length
  ·obtain⟨b,hb⟩:∃ b,has[i]=b:=⟨_,rfl⟩
   have Dn:has.getD i 0=b:=by rw[List.getD_eq_getElem?_getD,List.getElem?_eq_getElem c1,hb];rfl
   by_cases c2:XD b=1
   ·by_cases c3:iR.length<5
    ·have c3':(iR.length:Int)<5:=by omega
     have hm:eW has vals (nm::rest) i iR=eW has vals rest (i+1) (iR++[nT nm (nA vals i)]):=by simp only[eW];rw[if_pos ⟨c1,by rw[Dn];simp[UX,c2],c3⟩]
     rw[hm]
     simp[h1,h6,h7,h8,aZ,Hg,hi,he,Qk,bW,c1,hb,Ra,c2,bZ,c3',e72,VT,e81,s81,fZ]
     generalize hA:bF _ _ _ _ _ _=A
     obtain⟨v',h',rfl,Jy,tA⟩:=ho.push.append hx.push.wf hx.push.le (by rw[hx.push.lim,bI];omega) hA (by simp;omega) (by decide)
     simp[w1,h8]
     refine ih (iR++[nT nm (nA vals i)]) (i+1) _ h' pV (by simp;omega) ?_ ?_ ?_ ?_ ?_ (hx.push.trans tA)<;>simp[h1,h6,h7]
     simpa[fZ]using Jy
    ·have c3':¬(iR.length:Int)<5:=by omega
     have hm:eW has vals (nm::rest) i iR=eW has vals rest (i+1) iR:=by simp only[eW];rw[if_neg (fun q=>c3 q.2.2)]
     rw[hm]
     simp[h1,h6,h7,h8,aZ,Hg,hi,he,Qk,bW,c1,hb,Ra,c2,bZ,c3',w1]
     refine ih iR (i+1) _ h pV (by omega) ?_ ?_ ?_ ?_ ?_ hx<;>simp[h1,h6,h7,ho]
   ·have hm:eW has vals (nm::rest) i iR=eW has vals rest (i+1) iR:=by simp only[eW];rw[if_neg (fun q=>c2 (by rw[Dn]at q;simpa[UX]using q.2.1))]
    rw[hm]
    simp[h1,h6,h7,h8,aZ,Hg,hi,he,Qk,bW,c1,hb,Ra,c2,w1]
    refine ih iR (i+1) _ h pV (by omega) ?_ ?_ ?_ ?_ ?_ hx<;>simp[h1,h6,h7,ho]
  ·have c1':¬((i:Int)<has.length):=by omega
   have hm:eW has vals (nm::rest) i iR=eW has vals rest (i+1) iR:=by simp only[eW];rw[if_neg (fun q=>c1 q.1)]
   rw[hm]
   simp[h1,h6,h7,h8,aZ,Hg,hi,he,Qk,c1,w1]
   refine ih iR (i+1) _ h pV (by omega) ?_ ?_ ?_ ?_ ?_ hx<;>simp[h1,h6,h7,ho]
theorem s26(th tv:Bool)(has vals:List Int)(hl:has.length≤9223372036854775807) :
  pcF D t26 [.agg [eL th 1 bW has,eL tv 1 bW vals]]=some (dY (Br has vals)):=by
 unfold pcF
 rw[aM _ _ _ _ (by simp[t26])]
 simp[t26,e80,s80]
 refine l26 th tv has vals 27 _ ?_ ?_ hl rB [] 0 _ _ rfl (by simp) ?_ ?_ ?_ ?_ ?_ (Ext.refl ?_ ?_)<;>simp[rB]
 exact .start _ _ _ _
end Go.Dm.Tc
/-
What functions of the statements' own packages compute: a broker copied;the reference's orders and searches.
-/
namespace Go.Dm.Tc
end Go.Dm.Tc
/-
What the reference's functions compute,part 1: orders,searches,an advertisement learned.
-/
namespace Go.Dm.Tc
end Go.Dm.Tc
/-
What the reference's functions compute,part 2: an advertisement learned.
-/
namespace Go.Dm.Tc
end Go.Dm.Tc
/-
What functions of the program compute,part 9: what may be a name,a constraint,a predicate.
-/
namespace Go.Dm.Tc
def OO(s:List UInt8):Bool:=s.all fun b=>decide (97≤b.toNat) && decide (b.toNat≤122)
def Pe(s:List UInt8):Bool:=OO s && !decide (s=[]) && decide (s.length≤12)
def kC(c : yX) : Bool :=
  Pe c.name &&
    (if c.kind = 1 then decide (c.lo ≤ c.hi) && decide (c.text = [])
     else if c.kind = 3 then !decide (c.text.length = 12) && (decide (c.lo = 0) && decide (c.hi = 0) && decide (c.text.length ≤ 12))
     else if c.kind = 2 then decide (c.lo = 0) && decide (c.hi = 0) && decide (c.text.length ≤ 12)
     else false)
def jV:Option (List UInt8)→dR→Bool
 | _,[]=>true
 | prev,c::r=>kC c && (match prev with|none=>true|some n=>Go.Op.bytesLess n c.name) && jV (some c.name) r
def qY(p:dR):Bool:=jV none p && decide (p.length≤5)
def Rb(p:dR):Prop:=p.length≤1000000∧∀c∈p,c.name.length≤1000000
end Go.Dm.Tc
/-
What functions of the program compute,part 10: is a broker right?
-/
namespace Go.Dm.Tc
def uU(b:aL)(n:Int):Bool:=decide (n=-1) || b.bB.contains n
def u5(t1 s1 t2 s2:ID):Int:=orI (dD t1 t2) (dD s1 s2)
def ltE(x y:bM):Bool:=decide (u5 x.tree x.sub y.tree y.sub<0)
theorem pA{α:Type}{key:α→ID}:∀{l:List α},eC (l.map key)→kO (fun x y=>Bu (key x) (key y)) l=true
 | [],_=>rfl
 | [a],_=>rfl
 | a::b::r,h=>by
  unfold eC at h
  rw[List.map_cons,List.pairwise_cons]at h
  simp only[kO,Bool.and_eq_true]
  refine⟨?_,pA (l:=b::r) h.2⟩
  have:=h.1 (key b) (by simp)
  simpa[Bu]using this
def lJ(b:aL)(e:bM):Bool :=
 match b.aY.find? (fun a=>a.id=e.tree)with
 | none=>false
 | some a=>uU b e.lW && (!decide (e.lW=a.eQ) || decide (a.eQ=-1)) && !(e.up && decide (a.eQ=-1)) && qY e.pred
end Go.Dm.Tc
/-
What functions of the program compute,part 11: is a broker right? All of it.
-/
namespace Go.Dm.Tc
structure SizedN(b:aL):Prop where
 adv:∀x∈b.aY,Rb x.pred
 ent:∀x∈b.entries,Rb x.pred
 own:∀x∈b.kR,Rb x.pred
def uN(b:aL)(a:cP):Bool:=decide (a.id∈b.seen) && uU b a.eQ && qY a.pred
def eY(t:iE)(b:aL):List DV:=[.int .i64 b.me,eL t.bB 1 bW b.bB,eL t.aY 4 aG b.aY,eL t.seen 2 eID b.seen,eL t.entries 7 bO b.entries,eL t.kR 3 pQ b.kR]
def Bm(b:aL):Bool :=
 kO (fun x y=>decide (x<y)) b.bB && kO (fun x y=>Bu x y) b.seen && kO (fun x y:cP=>Bu x.id y.id) b.aY && kO (fun x y:Xa=>Bu x.id y.id) b.kR && kO ltE b.entries
def Om(b:aL):Bool :=
 Bm b && !(b.aY.any fun a=>!uN b a) && !(b.entries.any fun e=>!lJ b e) && !(b.kR.any fun o=>!qY o.pred)
end Go.Dm.Tc
/-
What functions of the program compute,part 12: an advertisement forgotten.
-/
namespace Go.Dm.Tc
theorem c6(tg:Bool)(a b:Int)(p1 p2 p3 p4 p5:DV)(c d:Int):pcF D V3 [.agg [.int .i64 a,.int .i64 b,p1,p2,p3,p4,p5],.iptr tg [.int .i64 c,.int .i64 d] 0]=some (.bool (decide ((⟨a,b⟩:ID)=⟨c,d⟩))):=by
 unfold pcF
 rw[aM _ _ _ _ (by simp[V3])]
 by_cases h1:a=c<;>by_cases h2:b=d<;>simp[V3,h1,h2]
theorem JF(x:ID)(c d:Int):(decide (x.bK=c) && decide (x.seq=d))=decide (x=⟨c,d⟩):=by
 cases x with|mk a b=>by_cases h1:a=c<;>by_cases h2:b=d<;>simp[h1,h2]
def vX{α:Type}(key:α→ID)(x:ID)(l:List α):List α:=l.filter fun a=>!decide (key a=x)
theorem Xh{α:Type}(key:α→ID){l:List α}(hr:eC (l.map key)){x:ID}{i:Nat}{a:α}(hi:l[i]?=some a)(ha:key a=x):l.take i++l.drop (i+1)=vX key x l:=by
 have aZ:i<l.length:=by
  by_cases h:i<l.length
  ·exact h
  ·rw[List.getElem?_eq_none (by omega)]at hi;cases hi
 have LP:l[i]=a:=by rw[List.getElem?_eq_getElem aZ]at hi;exact Option.some.inj hi
 have cT:∀j (hj:j<l.length),j≠i→key l[j]≠x:=by
  intro j hj hji e
  rcases Nat.lt_or_gt_of_ne hji with h|h
  ·have:=List.pairwise_iff_getElem.1 hr j i (by simpa using hj) (by simpa using aZ) h
   simp only[List.getElem_map,LP,ha,e]at this
   rw[gV]at this;omega
  ·have:=List.pairwise_iff_getElem.1 hr i j (by simpa using aZ) (by simpa using hj) h
   simp only[List.getElem_map,LP,ha,e]at this
   rw[gV]at this;omega
 have h1:(l.take i).filter (fun a=>!decide (key a=x))=l.take i:=by
  rw[List.filter_eq_self]
  intro y hy
  obtain⟨j,hj,rfl⟩:=List.mem_iff_getElem.1 hy
  rw[List.length_take]at hj
  have:=cT j (by omega) (by omega)
  simpa using this
 have h2:(l.drop (i+1)).filter (fun a=>!decide (key a=x))=l.drop (i+1):=by
  rw[List.filter_eq_self]
  intro y hy
  obtain⟨j,hj,rfl⟩:=List.mem_iff_getElem.1 hy
  rw[List.length_drop]at hj
  have:=cT (i+1+j) (by omega) (by omega)
  simpa using this
 have h3:(l.drop i).filter (fun a=>!decide (key a=x))=l.drop (i+1):=by
  rw[List.drop_eq_getElem_cons aZ,List.filter_cons,LP,ha,h2];simp
 calc l.take i++l.drop (i+1)=(l.take i++l.drop i).filter (fun a=>!decide (key a=x)):=by rw[List.filter_append,h1,h3]
  _=_:=by rw[List.take_append_drop];rfl
def fJ(b:aL)(x:ID)(lW:Int):aL×Bool :=
 match b.aY.find? (fun a=>a.id=x)with
 | none=>(b,false)
 | some a=>if a.eQ=lW then({b with aY:=vX (fun a=>a.id) x b.aY,entries:=vX (fun e=>e.tree) x b.entries},true)else(b,false)
theorem s213(t:iE)(b:aL)(c d q:Int)(hs:Wz b)(ra:eC (b.aY.map (·.id))) :
  pcF D V9 [aW t b,.agg [.int .i64 c,.int .i64 d],.int .i64 q]=some (.tup [aW .none (fJ b ⟨c,d⟩ q).1,.bool (fJ b ⟨c,d⟩ q).2]):=by
 obtain⟨me,bB,adv,seen,ent,own⟩:=b
 obtain⟨R,hR⟩:∃ R,R=DV.tup [aW .none (fJ ⟨me,bB,adv,seen,ent,own⟩ ⟨c,d⟩ q).1,.bool (fJ ⟨me,bB,adv,seen,ent,own⟩ ⟨c,d⟩ q).2]:=⟨_,rfl⟩
 rw[←hR]
 unfold pcF
 rw[aM _ _ _ _ (by simp[V9])]
 simp[V9,aW]
 generalize hA:fc D _ _ _=A
 obtain⟨v1,v2,v3,v4,v5,K,rfl,o1,o2,o3,o4,o5,x⟩:=d9 hA hs (by simp) (by simp)
 simp at o1 o2 o3 o4 o5 x
 clear hA
 have a0:=x.get 0 (by decide)
 have a1:=x.get 1 (by decide)
 have a2:=x.get 2 (by decide)
 have q0:=x.lim
 have w0:=x.wf
 have n0:=x.le
 simp at a0 a1 a2 q0
 have l0:0<K.n:=by omega
 have l2:2<K.n:=by omega
 have r1:∀o,resolve true (K.set 0 o) 199 v1=some (eL true 1 bW bB):=fun o=>(o1.aR w0 (by decide) l0).resolve true (fun y _=>(fD y).1) (by decide)
 have r2:∀o,resolve true (K.set 0 o) 199 v2=some (eL true 4 aG adv):=fun o=>(o2.aR w0 (by decide) l0).resolve true (fun y _=>(fI y).1) (by decide)
 have r3:∀o,resolve true (K.set 0 o) 199 v3=some (eL true 2 eID seen):=fun o=>(o3.aR w0 (by decide) l0).resolve true (fun y _=>(kD y).1) (by decide)
 have r4:∀o,resolve true (K.set 0 o) 199 v4=some (eL true 7 bO ent):=fun o=>(o4.aR w0 (by decide) l0).resolve true (fun y _=>(fK y).1) (by decide)
 have r5:∀o,resolve true (K.set 0 o) 199 v5=some (eL true 3 pQ own):=fun o=>(o5.aR w0 (by decide) l0).resolve true (fun y _=>(jH y).1) (by decide)
 have r1':∀o o',resolve false ((K.set 0 o).set 2 o') 198 v1=some (eL false 1 bW bB):=fun o o'=>((o1.aR w0 (by decide) l0).aR w0.set (by decide) l2).resolve false (fun y _=>(fD y).1) (by decide)
 have r2':∀o o',resolve false ((K.set 0 o).set 2 o') 198 v2=some (eL false 4 aG adv):=fun o o'=>((o2.aR w0 (by decide) l0).aR w0.set (by decide) l2).resolve false (fun y _=>(fI y).1) (by decide)
 have r3':∀o o',resolve false ((K.set 0 o).set 2 o') 198 v3=some (eL false 2 eID seen):=fun o o'=>((o3.aR w0 (by decide) l0).aR w0.set (by decide) l2).resolve false (fun y _=>(kD y).1) (by decide)
 have r4':∀o o',resolve false ((K.set 0 o).set 2 o') 198 v4=some (eL false 7 bO ent):=fun o o'=>((o4.aR w0 (by decide) l0).aR w0.set (by decide) l2).resolve false (fun y _=>(fK y).1) (by decide)
 have r5':∀o o',resolve false ((K.set 0 o).set 2 o') 198 v5=some (eL false 3 pQ own):=fun o o'=>((o5.aR w0 (by decide) l0).aR w0.set (by decide) l2).resolve false (fun y _=>(jH y).1) (by decide)
 have BP:adv.length≤1000000:=by have:=hs.adv;simp only at this;omega
 have nG:ent.length≤1000000:=by have:=hs.ent;simp only at this;omega
 simp only at ra
 have hf:=Hf (fun a:cP=>a.id) ra ⟨c,d⟩
 cases hq:adv.find? (fun a=>a.id=⟨c,d⟩)with
 | none =>
  rw[hq]at hf
  simp only at hf
  simp[a0,a1,a2,q0,w0,l0,l2,e86,s86,r1,r2,r3,r4,r5,r1',r2',r3',r4',r5',ra,BP,hf,aU]
  simp[hR,fJ,hq,aW,iE.none]
 | some a =>
  rw[hq]at hf
  simp only at hf
  obtain⟨hf1,hf2⟩:=hf
  have hax:a.id=⟨c,d⟩:=by simpa using List.find?_some hq
  obtain⟨i,hi⟩:∃ i,dQ (fun b:cP=>dD b.id ⟨c,d⟩) adv=i:=⟨_,rfl⟩
  have hilt:i<adv.length:=by
   by_cases h:i<adv.length
   ·exact h
   ·rw[hi,List.getElem?_eq_none (by omega)]at hf2;cases hf2
  rw[hi]at hf2
  obtain⟨id,sp,cap,hv2,RU,Rf,PM,xI,Po⟩:=o2.toR.index (i:=i) (x:=aG a) (by simp[hf2]) .i64
  have hid0:¬id=0:=by omega
  have hid2:¬id=2:=by omega
  simp only[aG]at Po
  by_cases Mb:a.eQ=q
  ·have hw:IntKind.i64.wrap ((i:Int)+1)=(i:Int)+1:=bG (by omega) (by omega)
   have hwo:=Xh (fun a:cP=>a.id) ra hf2 hax
   simp[a0,a1,a2,q0,w0,l0,l2,e86,s86,r1,r2,r3,r4,r5,ra,BP,hf1,hi,xI,RU,hid0,Po,eq_true Mb,hw]
   generalize hH:K.set 0 _=H
   have wH:WF H:=by rw[←hH];exact w0.set
   have nH:H.n=K.n:=by rw[←hH];rfl
   have lH:H.lim=0:=by rw[←hH];exact q0
   have g0:H.get 0=some (.arr 37 6 [.agg [.int .i64 me,v1,v2,v3,v4,v5]] (some 1)):=by rw[←hH,cO w0 l0,if_pos rfl]
   have g1:H.get 1=some (.arr 45 2 [.agg [.int .i64 c,.int .i64 d]] (some 1)):=by rw[←hH,cO w0 l0,if_neg (by decide)];exact a1
   have g2:H.get 2=some (.arr 37 6 [.agg [.int .i64 0,.nsl,.nsl,.nsl,.nsl,.nsl]] (some 1)):=by rw[←hH,cO w0 l0,if_neg (by decide)];exact a2
   have p1:Own 3 H v1 3 1 (bB.map bW):=by rw[←hH];exact o1.aR w0 (by decide) l0
   have p2:Own 3 H v2 68 4 (adv.map aG):=by rw[←hH];exact o2.aR w0 (by decide) l0
   have p3:Own 3 H v3 45 2 (seen.map eID):=by rw[←hH];exact o3.aR w0 (by decide) l0
   have p4:Own 3 H v4 70 7 (ent.map bO):=by rw[←hH];exact o4.aR w0 (by decide) l0
   have p5:Own 3 H v5 134 3 (own.map pQ):=by rw[←hH];exact o5.aR w0 (by decide) l0
   clear hH r1 r2 r3 r4 r5 r1' r2' r3' r4' r5' xI Po RU hid0 hid2 hv2 Rf PM
   obtain⟨v2',K2,hD,m2,x2,k2⟩:=s263 3 H v2 adv i p2 hilt BP wH (by omega)
   rw[hwo]at m2
   have b0:=x2.get 0 (by decide)
   have b1:=x2.get 1 (by decide)
   have b2:=x2.get 2 (by decide)
   have q2:=x2.lim
   have w2:=x2.wf
   have n2:=x2.le
   rw[g0]at b0
   rw[g1]at b1
   rw[g2]at b2
   rw[lH]at q2
   have PT:0<K2.n:=by omega
   simp[hD,b0,b1,b2,q2,w2,PT,m2.aO,m2.aF,turn]
   generalize hH':K2.set 0 _=H'
   have wH':WF H':=by rw[←hH'];exact w2.set
   have nH':H'.n=K2.n:=by rw[←hH'];rfl
   have lH':H'.lim=0:=by rw[←hH'];exact q2
   have g0':H'.get 0=some (.arr 37 6 [.agg [.int .i64 me,v1,v2',v3,v4,v5]] (some 1)):=by rw[←hH',cO w2 PT,if_pos rfl]
   have g1':H'.get 1=some (.arr 45 2 [.agg [.int .i64 c,.int .i64 d]] (some 1)):=by rw[←hH',cO w2 PT,if_neg (by decide)];exact b1
   have g2':H'.get 2=some (.arr 37 6 [.agg [.int .i64 0,.nsl,.nsl,.nsl,.nsl,.nsl]] (some 1)):=by rw[←hH',cO w2 PT,if_neg (by decide)];exact b2
   replace p1:Own 3 H' v1 3 1 (bB.map bW):=by rw[←hH'];exact(p1.keep k2 x2.lim (by decide)).aR w2 (by decide) PT
   replace m2:OwnR 3 H' v2' 68 4 ((vX (fun a=>a.id) ⟨c,d⟩ adv).map aG):=by rw[←hH'];exact m2.aR w2 (by decide) PT
   replace p3:Own 3 H' v3 45 2 (seen.map eID):=by rw[←hH'];exact(p3.keep k2 x2.lim (by decide)).aR w2 (by decide) PT
   replace p4:Own 3 H' v4 70 7 (ent.map bO):=by rw[←hH'];exact(p4.keep k2 x2.lim (by decide)).aR w2 (by decide) PT
   replace p5:Own 3 H' v5 134 3 (own.map pQ):=by rw[←hH'];exact(p5.keep k2 x2.lim (by decide)).aR w2 (by decide) PT
   clear hH' hD
   obtain⟨v4',K3,hD,m4,x3,k3⟩:=s264 3 H' v4 ent 265 [.ptr 1 2 0 0] [.iptr true [.int .i64 c,.int .i64 d] 0] (fun e=>decide (e.tree=⟨c,d⟩)) p4 nG wH' (by omega)
    (by simp[g1'])
    (fun y _ h'=>by simp[bO,o9,c6,JF])
    (fun y _ h' hx=>by
     have:=(hx.get 1 (by decide)).trans g1'
     simp[bO,o9,c6,this,JF])
   have c0:=x3.get 0 (by decide)
   have c1:=x3.get 1 (by decide)
   have c2:=x3.get 2 (by decide)
   have q3:=x3.lim
   have w3:=x3.wf
   have n3:=x3.le
   rw[g0']at c0
   rw[g1']at c1
   rw[g2']at c2
   rw[lH']at q3
   have h30:0<K3.n:=by omega
   have h32:2<K3.n:=by omega
   replace p1:=p1.keep k3 x3.lim (by decide)
   replace m2:=m2.keep k3 x3.lim (by decide)
   replace p3:=p3.keep k3 x3.lim (by decide)
   replace p5:=p5.keep k3 x3.lim (by decide)
   have r1:∀o o',resolve false ((K3.set 0 o).set 2 o') 198 v1=some (eL false 1 bW bB):=fun o o'=>((p1.aR w3 (by decide) h30).aR w3.set (by decide) h32).resolve false (fun y _=>(fD y).1) (by decide)
   have r2:=fun o o'=>((m2.aR (o:=o) w3 (by decide) h30).aR (o:=o') w3.set (by decide) h32).resolve (n:=198) false (fun y _=>(fI y).1) (by decide)
   have r3:∀o o',resolve false ((K3.set 0 o).set 2 o') 198 v3=some (eL false 2 eID seen):=fun o o'=>((p3.aR w3 (by decide) h30).aR w3.set (by decide) h32).resolve false (fun y _=>(kD y).1) (by decide)
   have r4:=fun o o'=>((m4.aR (o:=o) w3 (by decide) h30).aR (o:=o') w3.set (by decide) h32).resolve (n:=198) false (fun y _=>(fK y).1) (by decide)
   have r5:∀o o',resolve false ((K3.set 0 o).set 2 o') 198 v5=some (eL false 3 pQ own):=fun o o'=>((p5.aR w3 (by decide) h30).aR w3.set (by decide) h32).resolve false (fun y _=>(jH y).1) (by decide)
   simp[g0',lH',hD,c0,c2,q3,w3,h30,h32,m4.aO,m4.aF,turn,r1,r2,r3,r4,r5,aU]
   simp[hR,fJ,hq,Mb,aW,iE.none,vX]
  ·simp[a0,a1,a2,q0,w0,l0,l2,e86,s86,r1,r2,r3,r4,r5,r1',r2',r3',r4',r5',ra,BP,hf1,hi,xI,RU,hid0,Po,Mb,aU]
   simp[hR,fJ,hq,Mb,aW,iE.none]
end Go.Dm.Tc
/-
What the reference's functions compute,part 3: an advertisement forgotten.
-/
namespace Go.Dm.Tc
end Go.Dm.Tc
/-
Calls that let go of rows,brought into form;closed runs.
-/
namespace Go.Dm.Tc
def S0:Option (DV×aA)→(aA→Option (List DV×aA))→Option (List DV×aA)
 | some (v,h),k=>match k h with|some (r,h')=>some (v::r,h')|none=>none
 | none,_=>none
def SA(v:DV):Option (List DV×aA)→Option (List DV×aA)
 | some (r,h)=>some (v::r,h)
 | none=>none
def x9:Option (List DV×aA)→Option (DV×aA)
 | some (r,h)=>some (.agg r,h)
 | none=>none
theorem yP(v:DV)(r:List DV)(h:aA):SA v (some (r,h))=some (v::r,h):=_root_.id rfl
theorem Co(r:List DV)(h:aA):x9 (some (r,h))=some (.agg r,h):=_root_.id rfl
theorem yQ(v:DV)(h:aA)(k:aA→Option (List DV×aA)):S0 (some (v,h)) k=SA v (k h):=by
 simp only[S0];cases k h<;>rfl
theorem Gw(f:aA→DV→Option (DV×aA))(h:aA):sX f h []=some ([],h):=_root_.id rfl
theorem Bt(f:aA→DV→Option (DV×aA))(h:aA)(v:DV)(r:List DV):sX f h (v::r)=S0 (f h v) (fun h1=>sX f h1 r):=by
 simp only[sX,S0]
 cases f h v with
 | none=>rfl
 | some p=>rfl
theorem Qf(h:aA)(cs:List DV):fQ h (.agg cs)=x9 (sX gF h cs):=by
 simp only[fQ];cases sX gF h cs<;>rfl
theorem R6(h:aA)(k:IntKind)(n:Int):fQ h (.int k n)=some (.int k n,h):=_root_.id rfl
theorem E9{α:Type}(h:aA)(t:Bool)(sz:Nat)(e:α→DV)(xs:List α):fQ h (eL t sz e xs)=some (eL t sz e xs,h):=by cases xs<;>rfl
theorem Vm(h:aA)(p:dR):fQ h (dY p)=some (dY p,h):=E9 ..
theorem R5(h:aA)(s:List UInt8):fQ h (.str s)=some (.str s,h):=_root_.id rfl
theorem E8(h:aA)(k:IntKind)(n:Int):gF h (.int k n)=some (.int k n,h):=_root_.id rfl
theorem R4(h:aA)(b:Bool):gF h (.bool b)=some (.bool b,h):=_root_.id rfl
theorem JN(h:aA):gF h .nsl=some (.nsl,h):=_root_.id rfl
theorem R1{α:Type}(h:aA)(t:Bool)(sz:Nat)(e:α→DV)(xs:List α):gF h (eL t sz e xs)=some (eL t sz e xs,h):=by cases xs<;>rfl
theorem R0(h:aA)(p:dR):gF h (dY p)=some (dY p,h):=R1 ..
theorem JO(h:aA)(t:Bool)(sz:Nat)(xs:List DV):gF h (.isl t sz xs)=some (.isl t sz xs,h):=_root_.id rfl
attribute [simp] yP Co yQ Gw Bt Qf R6 E9 Vm R5 E8 R4 JN R1 R0 JO J7
theorem nn1(n:Nat):(n=n+1)=False:=eq_false (by omega)
theorem mm1(n:Nat):(n+1=n)=False:=eq_false (by omega)
theorem nn2(n:Nat):(n=n+1+1)=False:=eq_false (by omega)
theorem mm2(n:Nat):(n+1+1=n)=False:=eq_false (by omega)
theorem nn3(n:Nat):(n=n+1+1+1)=False:=eq_false (by omega)
theorem mm3(n:Nat):(n+1+1+1=n)=False:=eq_false (by omega)
theorem nn4(n:Nat):(n=n+1+1+1+1)=False:=eq_false (by omega)
theorem mm4(n:Nat):(n+1+1+1+1=n)=False:=eq_false (by omega)
theorem nn5(n:Nat):(n=n+1+1+1+1+1)=False:=eq_false (by omega)
theorem mm5(n:Nat):(n+1+1+1+1+1=n)=False:=eq_false (by omega)
theorem nn6(n:Nat):(n=n+1+1+1+1+1+1)=False:=eq_false (by omega)
theorem mm6(n:Nat):(n+1+1+1+1+1+1=n)=False:=eq_false (by omega)
theorem nn7(n:Nat):(n=n+1+1+1+1+1+1+1)=False:=eq_false (by omega)
theorem mm7(n:Nat):(n+1+1+1+1+1+1+1=n)=False:=eq_false (by omega)
theorem nn8(n:Nat):(n=n+1+1+1+1+1+1+1+1)=False:=eq_false (by omega)
theorem mm8(n:Nat):(n+1+1+1+1+1+1+1+1=n)=False:=eq_false (by omega)
theorem nn9(n:Nat):(n=n+1+1+1+1+1+1+1+1+1)=False:=eq_false (by omega)
theorem mm9(n:Nat):(n+1+1+1+1+1+1+1+1+1=n)=False:=eq_false (by omega)
theorem nn10(n:Nat):(n=n+1+1+1+1+1+1+1+1+1+1)=False:=eq_false (by omega)
theorem mm10(n:Nat):(n+1+1+1+1+1+1+1+1+1+1=n)=False:=eq_false (by omega)
theorem nn11(n:Nat):(n=n+1+1+1+1+1+1+1+1+1+1+1)=False:=eq_false (by omega)
theorem mm11(n:Nat):(n+1+1+1+1+1+1+1+1+1+1+1=n)=False:=eq_false (by omega)
theorem nn12(n:Nat):(n=n+1+1+1+1+1+1+1+1+1+1+1+1)=False:=eq_false (by omega)
theorem mm12(n:Nat):(n+1+1+1+1+1+1+1+1+1+1+1+1=n)=False:=eq_false (by omega)
attribute [simp] nn1 mm1 nn2 mm2 nn3 mm3 nn4 mm4 nn5 mm5 nn6 mm6 nn7 mm7 nn8 mm8 nn9 mm9 nn10 mm10 nn11 mm11 nn12 mm12
theorem UO{k n:Nat}{df:aK}{args ds:List DV}{d:DV}(he:∀args h,fc D k args h=sG D df h (args.mapM (resolve true h bT)))(hd:args.mapM (resolve true tY bT)=some ds)(hr:Wm D n k args tY=some (d,tY)):pcF D df ds=some d:=by
 have h1:fc D k args tY=some (d,tY):=Fa.2 ⟨n,hr⟩
 rw[he,hd,tP]at h1
 cases h2:pcF D df ds with
 | none=>rw[h2]at h1;cases h1
 | some x=>rw[h2,yT]at h1;injection h1 with h1;injection h1 with h1;rw[h1]
end Go.Dm.Tc
/-
Plain laws,part 1: predicates Eb of numbers are right;rows that rise stay so.
-/
namespace Go.Dm.Tc
theorem Pd:∀nm∈rB,Pe nm=true∧nm.length≤1000000:=by decide
theorem U8:∀i:Nat,(uI.getD i []).length≤3:=by
 intro i
 by_cases h:i<uI.length
 ·have:∀x∈uI,x.length≤3:=by decide
  rw[List.getD_eq_getElem?_getD,List.getElem?_eq_getElem h]
  exact this _ (List.getElem_mem h)
 ·rw[List.getD_eq_getElem?_getD,List.getElem?_eq_none (by omega)]
  simp
theorem Di(nm:List UInt8)(n:Int):(nT nm n).name=nm:=by unfold nT;split<;>rfl
theorem Pi{nm:List UInt8}(h:Pe nm=true)(n:Int):kC (nT nm n)=true:=by
 unfold nT
 split
 ·have b1:=mW (IntKind.i64.wrap (n.tdiv 40)) (show(0:Int)≤9 by decide)
  simp only[kC,h,Bool.true_and,if_true]
  simp
  omega
 ·have ht:=U8 (bY (IntKind.i64.wrap (n.tdiv 4)) 0 6).toNat
  split
  ·simp only[kC,h,Bool.true_and]
   simp
   simp at ht
   omega
  ·simp only[kC,h,Bool.true_and]
   simp
   simp at ht
   omega
theorem De{c:yX}(hc:kC c=true):∀(iR:dR) (prev:Option (List UInt8)),jV prev iR=true→(∀d∈iR,Go.Op.bytesLess d.name c.name=true)→(∀n,prev=some n→Go.Op.bytesLess n c.name=true)→jV prev (iR++[c])=true
 | [],prev,_,_,hp=>by
  simp only[List.nil_append,jV,hc,Bool.true_and,Bool.and_true]
  cases prev with
  | none=>rfl
  | some n=>exact hp n rfl
 | d::r,prev,h,hd,hp=>by
  simp only[jV,Bool.and_eq_true]at h
  simp only[List.cons_append,jV,Bool.and_eq_true]
  exact⟨h.1,De hc r (some d.name) h.2 (fun x hx=>hd x (List.mem_cons_of_mem _ hx)) (fun n hn=>by injection hn with hn;rw[←hn];exact hd d (List.mem_cons_self ..))⟩
theorem rC(has vals:List Int):∀(rest:List (List UInt8)) (i:Nat) (iR:dR),(∀nm∈rest,Pe nm=true∧nm.length≤1000000)→rest.Pairwise (fun a b=>Go.Op.bytesLess a b=true)→jV none iR=true→iR.length≤5 →
  (∀d∈iR,d.name.length≤1000000∧∀nm∈rest,Go.Op.bytesLess d.name nm=true)→jV none (eW has vals rest i iR)=true∧(eW has vals rest i iR).length≤5∧∀d∈eW has vals rest i iR,d.name.length≤1000000
 | [],_,iR,_,_,h,hl,hd=>⟨h,hl,fun d hx=>(hd d hx).1⟩
 | nm::r,i,iR,hn,hp,h,hl,hd=>by
  rw[List.pairwise_cons]at hp
  simp only[eW]
  split
  ·rename_i hc
   have hr:=Pi (hn nm (List.mem_cons_self ..)).1 (nA vals i)
   refine rC has vals r (i+1) _ (fun x hx=>hn x (List.mem_cons_of_mem _ hx)) hp.2 (De hr iR none h (fun d hx=>by rw[Di];exact(hd d hx).2 nm (List.mem_cons_self ..)) (fun n e=>by cases e)) (by simp;omega) ?_
   intro d hx
   rcases List.mem_append.1 hx with hx|hx
   ·exact⟨(hd d hx).1,fun y hy=>(hd d hx).2 y (List.mem_cons_of_mem _ hy)⟩
   ·simp only[List.mem_singleton]at hx
    subst hx
    rw[Di]
    exact⟨(hn nm (List.mem_cons_self ..)).2,fun y hy=>hp.1 y hy⟩
  ·exact rC has vals r (i+1) iR (fun x hx=>hn x (List.mem_cons_of_mem _ hx)) hp.2 h hl (fun d hx=>⟨(hd d hx).1,fun y hy=>(hd d hx).2 y (List.mem_cons_of_mem _ hy)⟩)
structure jX(p:dR):Prop where
 right:qY p=true
 names:Rb p
 len:p.length≤5
theorem AU(has vals:List Int):jX (Br has vals):=by
 obtain⟨h1,h2,h3⟩:=rC has vals rB 0 [] Pd (by decide) rfl (by simp) (by simp)
 exact⟨by unfold qY;rw[show jV none (Br has vals)=true from h1,Bool.true_and];exact decide_eq_true h2,⟨Nat.le_trans h2 (by decide),h3⟩,h2⟩
theorem pI{α:Type}(key:α→ID)(a:α){l:List α}(h:eC (l.map key))(hn:∀b∈l,key b≠key a):eC ((tV key a l).map key):=by
 obtain⟨r1,r2⟩:=Fz key h (key a)
 have hp:l.Pairwise fun x y=>dD (key x) (key y)<0:=by unfold eC at h;exact List.pairwise_map.1 h
 unfold eC tV
 rw[List.pairwise_map,List.pairwise_append,List.pairwise_cons]
 generalize hk:dQ (fun b=>dD (key b) (key a)) l=k at *
 have Hc:∀b∈l.take k,dD (key b) (key a)<0:=by
  intro b hb
  obtain⟨i,hi,rfl⟩:=List.mem_iff_getElem.1 hb
  rw[List.getElem_take]
  rw[List.length_take]at hi
  exact r1 i (by omega) (by omega)
 have vB:∀b∈l.drop k,dD (key a) (key b)<0:=by
  intro b hb
  obtain⟨i,hi,rfl⟩:=List.mem_iff_getElem.1 hb
  rw[List.length_drop]at hi
  rw[List.getElem_drop]
  have:=r2 (k+i) (by omega) (by omega)
  rcases CP (key l[k+i]) (key a)with h1|h1|h1
  ·exact absurd h1 this
  ·exact absurd h1 (hn _ (List.getElem_mem _))
  ·exact h1
 refine⟨hp.sublist (List.take_sublist ..),⟨fun b hb=>vB b hb,hp.sublist (List.drop_sublist ..)⟩,?_⟩
 intro x hx y hy
 rcases List.mem_cons.1 hy with rfl|hy
 ·exact Hc x hx
 ·exact Dv (Hc x hx) (vB y hy)
theorem qK{α:Type}(key:α→ID)(a:α)(l:List α)(b:α):b∈tV key a l↔b=a∨b∈l:=by
 unfold tV
 rw[List.mem_append,List.mem_cons]
 constructor
 ·rintro(h|h|h)
  ·exact .inr (List.mem_of_mem_take h)
  ·exact .inl h
  ·exact .inr (List.mem_of_mem_drop h)
 ·rintro(h|h)
  ·exact .inr (.inl h)
  ·rw[←List.take_append_drop (dQ (fun b=>dD (key b) (key a)) l) l,List.mem_append]at h
   exact h.elim .inl fun h=>.inr (.inr h)
theorem Er{α:Type}(key:α→ID)(a:α)(l:List α):(tV key a l).length=l.length+1:=by
 unfold tV
 rw[List.length_append,List.length_cons,List.length_take,List.length_drop]
 have:=wJ (fun b=>dD (key b) (key a)) l
 omega
end Go.Dm.Tc
/-
Plain laws,part 2: a broker that was told of advertisements alone;sets of IDs as maps.
-/
namespace Go.Dm.Tc
structure Kr(m0:Int)(nr:List Int)(b:aL)(n:Nat):Prop where
 me:b.me=m0
 bB:b.bB=nr
 ent:b.entries=[]
 own:b.kR=[]
 ra:eC (b.aY.map (·.id))
 rs:eC b.seen
 la:b.aY.length≤n
 ls:b.seen.length≤n
 sub:∀a∈b.aY,a.id∈b.seen
 par:∀a∈b.aY,a.eQ=-1∨a.eQ∈nr
 prd:∀a∈b.aY,jX a.pred
section
variable {me:Int} {bB:List Int} {b:aL} {n:Nat}
theorem Kr.start(me:Int)(bB:List Int):Kr me bB ⟨me,bB,[],[],[],[]⟩ 0:=⟨rfl,rfl,rfl,rfl,List.Pairwise.nil,List.Pairwise.nil,Nat.le_refl _,Nat.le_refl _,fun a h=>(by cases h),fun a h=>(by cases h),fun a h=>(by cases h)⟩
theorem Kr.mono{m:Nat}(h:Kr me bB b n)(hm:n≤m):Kr me bB b m:={h with la:=Nat.le_trans h.la hm,ls:=Nat.le_trans h.ls hm}
theorem Kr.learn(h:Kr me bB b n)(a:cP)(hp:a.eQ=-1∨a.eQ∈bB)(hr:jX a.pred):Kr me bB (dF b a).1 (n+1):=by
 unfold dF
 split
 ·exact h.mono (Nat.le_succ n)
 ·rename_i hm
  refine⟨h.me,h.bB,h.ent,h.own,?_,?_,?_,?_,?_,?_,?_⟩
  ·exact pI (fun a:cP=>a.id) a h.ra (fun b hb e=>hm (by rw[←e];exact h.sub b hb))
  ·have:=pI (fun x:ID=>x) a.id (l:=b.seen) (by simpa using h.rs) (fun b hb e=>hm (by rw[←e];exact hb))
   simpa using this
  ·simp only[Er];exact Nat.succ_le_succ h.la
  ·simp only[Er];exact Nat.succ_le_succ h.ls
  ·intro x hx
   rw[qK]at hx ⊢
   rcases hx with rfl|hx
   ·exact .inl rfl
   ·exact .inr (h.sub x hx)
  ·intro x hx
   rw[qK]at hx
   rcases hx with rfl|hx
   ·exact hp
   ·exact h.par x hx
  ·intro x hx
   rw[qK]at hx
   rcases hx with rfl|hx
   ·exact hr
   ·exact h.prd x hx
theorem Kr.right(h:Kr me bB b n)(hn:kO (fun x y=>decide (x<y)) bB=true):Om b=true:=by
 unfold Om Bm
 rw[h.bB,h.ent,h.own,pA (key:=fun a:cP=>a.id) h.ra,show kO (fun x y=>Bu x y) b.seen=true from pA (key:=fun a:ID=>a) (by simpa using h.rs),hn]
 have:(b.aY.any fun a=>!uN b a)=false:=by
  rw[List.any_eq_false]
  intro a ha
  have h1:=h.sub a ha
  have h2:=h.par a ha
  have h3:=(h.prd a ha).right
  have h4:uU b a.eQ=true:=by
   unfold uU
   rw[h.bB]
   rcases h2 with e|e
   ·simp[e]
   ·simp[e]
  simp[uN,h1,h3,h4]
 rw[this]
 rfl
end
def uB(ks:List ID):List (DV×DV):=ks.map fun x=>(.agg [.int .i64 x.bK,.int .i64 x.seq],.bool true)
def yV(x:ID)(ks:List ID):List ID:=if x∈ks then ks else ks++[x]
theorem tL(c d:Int)(y:ID):fA (.agg [1,1]) (.agg [.int .i64 c,.int .i64 d]) (.agg [.int .i64 y.bK,.int .i64 y.seq])=some (decide ((⟨c,d⟩:ID)=y)):=by
 cases y with|mk a b=>by_cases h1:c=a<;>by_cases h2:d=b<;>simp[h1,h2]
theorem wM(c d:Int):∀{ks:List ID},(⟨c,d⟩:ID) ∉ ks→pK (.agg [1,1]) (.agg [.int .i64 c,.int .i64 d]) (uB ks)=some 0
 | [],_=>rfl
 | y::r,h=>by
  have h1:(⟨c,d⟩:ID)≠y:=fun e=>h (by rw[e];exact List.mem_cons_self ..)
  have ih:=wM c d (ks:=r) fun hm=>h (List.mem_cons_of_mem _ hm)
  simp only[uB,List.map_cons,pK]
  rw[tL,show pK _ _ (r.map _)=some 0 from ih,decide_eq_false h1]
theorem Cg(c d:Int):∀{ks:List ID} (i:Nat),(⟨c,d⟩:ID) ∉ ks→eU (.agg [1,1]) (.agg [.int .i64 c,.int .i64 d]) (uB ks) i=some none
 | [],_,_=>rfl
 | y::r,i,h=>by
  have h1:(⟨c,d⟩:ID)≠y:=fun e=>h (by rw[e];exact List.mem_cons_self ..)
  have ih:=Cg c d (ks:=r) (i+1) fun hm=>h (List.mem_cons_of_mem _ hm)
  simp only[uB,List.map_cons,eU]
  rw[tL,decide_eq_false h1]
  exact ih
theorem By(c d:Int):∀{ks:List ID},ks.Nodup→(⟨c,d⟩:ID)∈ks→pK (.agg [1,1]) (.agg [.int .i64 c,.int .i64 d]) (uB ks)=some 1
 | [],_,h=>by cases h
 | y::r,hn,h=>by
  rw[List.nodup_cons]at hn
  simp only[uB,List.map_cons,pK]
  by_cases h1:(⟨c,d⟩:ID)=y
  ·rw[tL,decide_eq_true h1,show pK _ _ (r.map _)=some 0 from wM c d (by rw[h1];exact hn.1)]
  ·rw[tL,decide_eq_false h1,show pK _ _ (r.map _)=some 1 from By c d hn.2 ((List.mem_cons.1 h).resolve_left h1)]
theorem Cf(c d:Int):∀{ks:List ID} (i:Nat),(⟨c,d⟩:ID)∈ks→∃ j,eU (.agg [1,1]) (.agg [.int .i64 c,.int .i64 d]) (uB ks) i=some (some (i+j,.bool true))∧ks[j]?=some ⟨c,d⟩
 | [],_,h=>by cases h
 | y::r,i,h=>by
  simp only[uB,List.map_cons,eU]
  by_cases h1:(⟨c,d⟩:ID)=y
  ·rw[tL,decide_eq_true h1]
   exact⟨0,rfl,by rw[h1];rfl⟩
  ·obtain⟨j,k1,k2⟩:=Cf c d (i+1) ((List.mem_cons.1 h).resolve_left h1)
   rw[tL,decide_eq_false h1]
   refine⟨j+1,?_,by simpa using k2⟩
   rw[show i+(j+1)=i+1+j by omega]
   exact k1
theorem yC{ks:List ID}(hn:ks.Nodup)(c d:Int):fP (.agg [1,1]) (.bool false) false (.agg [.int .i64 c,.int .i64 d]) (some (uB ks))=some (.bool (decide ((⟨c,d⟩:ID)∈ks))):=by
 have he:(fA (.agg [1,1]) (.agg [.int .i64 c,.int .i64 d]) (.agg [.int .i64 c,.int .i64 d])).isSome=true:=by simp
 simp only[fP,he,if_true]
 by_cases h:(⟨c,d⟩:ID)∈ks
 ·obtain⟨j,k1,_⟩:=Cf c d 0 h
  simp only[lR,By c d hn h,k1,decide_eq_true h]
  rfl
 ·simp only[lR,wM c d h,Cg c d 0 h,decide_eq_false h]
  rfl
def JW:Option DO→Option (List (DV×DV))
 | some (.mp es)=>some es
 | _=>none
theorem eF(h:aA)(id:Nat):vK h (.map id)=JW (h.get id):=by
 simp only[vK,JW]
 cases h.get id with
 | none=>rfl
 | some o=>cases o<;>rfl
theorem fV(es:List (DV×DV)):JW (some (.mp es))=some es:=_root_.id rfl
def Iz(h:aA)(q:EqT)(id:Nat)(k x:DV):Option DO→Option aA
 | some (.mp es)=>if h.lim≤id∧(fA q k k).isSome=true then
   match lR q k es with
   | some (some (i,_))=>some (h.set id (.mp (es.set i (k,x))))
   | some none=>some (h.set id (.mp (es++[(k,x)])))
   | none=>none
  else none
 | _=>none
theorem kX(h:aA)(q:EqT)(id:Nat)(k x:DV):zA h q (.map id) k x=Iz h q id k x (h.get id):=by
 simp only[zA,Iz]
 cases h.get id with
 | none=>rfl
 | some o=>cases o<;>rfl
theorem Sp{α:Type}:∀{l:List α} {i:Nat} {a:α},l[i]?=some a→l.set i a=l
 | [],i,a,h=>by simp at h
 | x::r,0,a,h=>by simp at h;simp[h]
 | x::r,i+1,a,h=>by simp at h;simp[Sp h]
theorem M2{h:aA}{id:Nat}{ks:List ID}(hn:ks.Nodup)(hl:h.lim≤id)(c d:Int):Iz h (.agg [1,1]) id (.agg [.int .i64 c,.int .i64 d]) (.bool true) (some (.mp (uB ks)))=some (h.set id (.mp (uB (yV ⟨c,d⟩ ks)))):=by
 have he:(fA (.agg [1,1]) (.agg [.int .i64 c,.int .i64 d]) (.agg [.int .i64 c,.int .i64 d])).isSome=true:=by simp
 simp only[Iz,he,hl,and_self,if_true]
 by_cases hm:(⟨c,d⟩:ID)∈ks
 ·obtain⟨j,k1,k2⟩:=Cf c d 0 hm
  simp only[lR,By c d hn hm,k1,Nat.zero_add,yV,if_pos hm]
  have hs:(uB ks).set j (DV.agg [.int .i64 c,.int .i64 d],DV.bool true)=uB ks:=Sp (by simp only[uB,List.getElem?_map,k2];rfl)
  simp only[Nat.le_refl,if_true]
  rw[hs]
 ·simp only[lR,wM c d hm,Cg c d 0 hm,yV,if_neg hm]
  simp[uB]
theorem IU(h:aA)(id:Nat):lenV h 2 (.map id)=(JW (h.get id)).map fun es=>.int .i64 es.length:=by
 simp only[lenV,JW]
 cases h.get id with
 | none=>rfl
 | some o=>cases o<;>rfl
end Go.Dm.Tc
/-
What functions of the program compute,part 13: is a constraint wider than another one?
-/
namespace Go.Dm.Tc
def S6(s p:List UInt8):Bool:=decide (p.length≤s.length) && (s.take p.length == p)
def VU(c:yX)(s:List UInt8):Bool:=if c.kind=2 then s == c.text else if c.kind=3 then S6 s c.text else false
def SF(c x:yX):Bool :=
 if x.kind=1 then decide (c.kind=1) && decide (c.lo≤x.lo) && decide (x.hi≤c.hi)
 else if x.kind=3 then decide (c.kind=3) && S6 x.text c.text
 else if x.kind=2 then VU c x.text
 else false
end Go.Dm.Tc
/-
What functions of the program compute,part 14: does a predicate cover another one?
-/
namespace Go.Dm.Tc
def LA(p:dR):Prop:=p.Pairwise fun a b=>a.name≠b.name
def R9(a b:dR):Bool:=a.all fun c=>match b.find? (fun x=>decide (x.name=c.name))with
 | some x=>SF c x
 | none=>false
end Go.Dm.Tc
/-
What functions of the program compute,part 15: an entry's place;an entry found;a tree's entries.
-/
namespace Go.Dm.Tc
def lI(tree sub:ID)(e:bM):Int:=if e.tree=tree∧e.sub=sub then 0 else if Bu e.tree tree=true∨(e.tree=tree∧Bu e.sub sub=true)then -1 else 1
theorem kG{a b:ID}:Bu a b=true↔a.bK<b.bK∨a.bK=b.bK∧a.seq<b.seq:=by
 unfold Bu;rw[decide_eq_true_iff,gV]
theorem ID.ext'{a b:ID}:a=b↔a.bK=b.bK∧a.seq=b.seq:=by cases a;cases b;simp
theorem En{tree sub:ID}{e:bM}:lI tree sub e<0↔Bu e.tree tree=true∨(e.tree=tree∧Bu e.sub sub=true):=by
 unfold lI
 split
 ·rename_i h
  rw[h.1,h.2,kG,kG]
  constructor
  ·intro q;omega
  ·rintro(q|⟨_,q⟩)<;>omega
 ·split
  ·rename_i h;exact⟨fun _=>h,fun _=>by decide⟩
  ·rename_i h;exact⟨fun q=>by omega,fun q=>absurd q h⟩
theorem zO{tree sub:ID}{e:bM}:lI tree sub e=0↔e.tree=tree∧e.sub=sub:=by
 unfold lI
 split
 ·rename_i h;exact⟨fun _=>h,fun _=>rfl⟩
 ·rename_i h
  split<;>exact⟨fun q=>by omega,fun q=>absurd q h⟩
theorem OM(a b:bM):ltE a b=true↔lI b.tree b.sub a<0:=by
 rw[En,kG,kG]
 unfold ltE u5 orI
 rw[decide_eq_true_iff]
 split
 ·rename_i h
  rw[As]at h
  rw[gV,h]
  constructor
  ·intro q;exact .inr ⟨rfl,q⟩
  ·rintro(q|⟨_,q⟩)
   ·omega
   ·exact q
 ·rename_i h
  rw[As]at h
  rw[gV]
  constructor
  ·intro q;exact .inl q
  ·rintro(q|⟨q,_⟩)
   ·exact q
   ·exact absurd q h
def jP(l:List bM):Prop:=l.Pairwise fun a b=>lI b.tree b.sub a<0
theorem Fw{t s:ID}{a b:bM}(h1:lI b.tree b.sub a<0)(h2:lI t s b≤0):lI t s a<0:=by
 rw[En,kG,kG]at *
 by_cases h0:lI t s b=0
 ·rw[zO]at h0
  rw[h0.1,h0.2]at h1
  exact h1
 ·have h3:lI t s b<0:=by omega
  rw[En,kG,kG]at h3
  rw[ID.ext']at *
  omega
theorem k8{l:List bM}(h:jP l)(t s:ID):∀i j (hi:i<l.length) (hj:j<l.length),i≤j→lI t s l[j]<0→lI t s l[i]<0:=by
 intro i j hi hj LO aZ
 rcases Nat.lt_or_eq_of_le LO with hl|rfl
 ·exact Fw (List.pairwise_iff_getElem.1 h i j hi hj hl) (by omega)
 ·exact aZ
theorem Lq:∀{l:List bM},jP l→kO ltE l=true
 | [],_=>rfl
 | [a],_=>rfl
 | a::b::r,h=>by
  unfold jP at h
  rw[List.pairwise_cons]at h
  simp only[kO,Bool.and_eq_true]
  exact⟨(OM a b).2 (h.1 b (List.mem_cons_self ..)),Lq (l:=b::r) h.2⟩
def isE(tree sub:ID)(e:bM):Bool:=decide (e.tree=tree∧e.sub=sub)
end Go.Dm.Tc
/-
What functions of the program compute,part 16: an entry found;a tree's entries;is a predicate covered?
-/
namespace Go.Dm.Tc
def ofT(tree:ID)(l:List bM):List bM:=l.filter fun e=>decide (e.tree=tree)
def eG(l:List bM)(tree:ID)(p:dR):Bool:=(ofT tree l).any fun e=>e.up && R9 e.pred p
end Go.Dm.Tc
/-
What functions of the program compute,part 17: is a broker tight?
-/
namespace Go.Dm.Tc
def gQ(b:aL)(x:ID):Int:=((b.aY.find? fun a=>a.id=x).getD Au).eQ
def EP(b:aL)(e:bM):Bool:=e.up || decide (gQ b e.tree=-1) || eG b.entries e.tree e.pred
def Xq(b:aL):Bool:=b.entries.all (EP b)
structure XG(b:aL):Prop where
 unl:∀e∈b.entries,LA e.pred
 len:∀e∈b.entries,e.pred.length≤1000000
end Go.Dm.Tc
/-
What the reference's functions compute,part 4: an entry's place;is a predicate covered?
-/
namespace Go.Dm.Tc
end Go.Dm.Tc
/-
What the reference's functions compute,part 5: does a predicate cover another one? is it covered?
-/
namespace Go.Dm.Tc
end Go.Dm.Tc
/-
Plain laws,part 3: names of right predicates are unlike;the two coverings are alike. The reference's Covered.
-/
namespace Go.Dm.Tc
theorem QX{a b:UInt8}:(decide (a<b))=decide (a.toNat<b.toNat):=by
 by_cases h:a<b
 ·rw[decide_eq_true h,decide_eq_true (UInt8.lt_iff_toNat_lt.1 h)]
 ·rw[decide_eq_false h,decide_eq_false (fun q=>h (UInt8.lt_iff_toNat_lt.2 q))]
theorem KO:∀a:List UInt8,Go.Op.bytesLess a a=false
 | []=>rfl
 | a::r=>by simp only[Go.Op.bytesLess,QX,KO r];simp
theorem Ij:∀{a b c:List UInt8},Go.Op.bytesLess a b=true→Go.Op.bytesLess b c=true→Go.Op.bytesLess a c=true
 | _,[],_,h,_=>by cases ‹List UInt8›<;>simp[Go.Op.bytesLess]at h
 | _,_::_,[],_,h=>by simp[Go.Op.bytesLess]at h
 | [],_::_,_::_,_,_=>rfl
 | a::x,b::y,c::z,h1,h2=>by
  simp only[Go.Op.bytesLess,QX,Bool.or_eq_true,Bool.and_eq_true,decide_eq_true_iff,beq_iff_eq]at *
  rcases h1 with h1|⟨rfl,h1⟩
  ·rcases h2 with h2|⟨rfl,h2⟩
   ·exact .inl (by omega)
   ·exact .inl h1
  ·rcases h2 with h2|⟨rfl,h2⟩
   ·exact .inl h2
   ·exact .inr ⟨rfl,Ij h1 h2⟩
theorem zT:∀{p:dR} {prev:Option (List UInt8)},jV prev p=true→(∀n,prev=some n→∀c∈p,Go.Op.bytesLess n c.name=true)∧p.Pairwise fun a b=>Go.Op.bytesLess a.name b.name=true
 | [],_,_=>⟨fun _ _ _ h=>(by cases h),List.Pairwise.nil⟩
 | c::r,prev,h=>by
  simp only[jV,Bool.and_eq_true]at h
  obtain⟨⟨_,h2⟩,h3⟩:=h
  obtain⟨k1,k2⟩:=zT h3
  refine⟨fun n hn d hd=>?_,List.pairwise_cons.2 ⟨fun d hd=>k1 c.name rfl d hd,k2⟩⟩
  subst hn
  rcases List.mem_cons.1 hd with rfl|hd
  ·exact h2
  ·exact Ij h2 (k1 c.name rfl d hd)
theorem Df:∀{p:dR} {prev:Option (List UInt8)},jV prev p=true→∀c∈p,kC c=true
 | [],_,_,_,h=>by cases h
 | c::r,prev,h,d,hd=>by
  simp only[jV,Bool.and_eq_true]at h
  rcases List.mem_cons.1 hd with rfl|hd
  ·exact h.1.1
  ·exact Df h.2 d hd
theorem jX.unlike{p:dR}(h:jX p):LA p:=by
 have:=h.right
 unfold qY at this
 rw[Bool.and_eq_true]at this
 refine(zT this.1).2.imp fun {a b} hab e=>?_
 rw[e,KO]at hab
 cases hab
theorem jX.each{p:dR}(h:jX p):∀c∈p,kC c=true:=by
 have:=h.right
 unfold qY at this
 rw[Bool.and_eq_true]at this
 exact Df this.1
theorem jX.nil:jX []:=⟨rfl,⟨by decide,fun c h=>by cases h⟩,by decide⟩
end Go.Dm.Tc
/-
What functions of the program compute,part 18: an entry added.
-/
namespace Go.Dm.Tc
def Pn(e:bM)(l:List bM):List bM:=l.take (dQ (lI e.tree e.sub) l)++e::l.drop (dQ (lI e.tree e.sub) l)
def Pl(b:aL)(e:bM):Bool :=
 match b.aY.find? (fun a=>a.id=e.tree)with
 | none=>false
 | some a=>!(b.entries.any (isE e.tree e.sub)) && !(decide (e.lW=a.eQ) && !decide (a.eQ=-1))
def Xm(b:aL)(e:bM):Bool:=!decide (gQ b e.tree=-1) && !eG b.entries e.tree e.pred
def vT(b:aL)(e:bM):aL×Bool :=
 if Pl b e=true then({b with entries:=Pn {e with up:=Xm b e} b.entries},Xm b e)else(b,false)
end Go.Dm.Tc
/-
What the reference's functions compute,part 6: an entry added.
-/
namespace Go.Dm.Tc
end Go.Dm.Tc
/-
What the reference's functions compute,part 7: an entry added,all of it.
-/
namespace Go.Dm.Tc
end Go.Dm.Tc
/-
Two rows of one element type side by side: what is put behind one leaves the other one alone.
-/
namespace Go.Dm.Tc
def T4(v:DV)(k:Nat):Prop:=∀sz off len,v≠.sl k sz off len
theorem Qv{lo:Nat}{h:aA}{v:DV}{ety sz bytes:Nat}{xs ys:List DV}{A:Option (DV×aA)}(w:OwnR lo h v ety sz xs)(wf:WF h)(eN:lo≤h.n)(bI:h.lim≤h.n)(hA:bF h ety sz bytes v ys=A)
  (hb:(xs.length+ys.length)*bytes≤140737488355328) (Bz:1≤bytes) :
  ∃ v' h',A=some (v',h')∧OwnR lo h' v' ety sz (xs++ys)∧Ext lo h h'∧(∀k,k<h.n→T4 v k→h'.get k=h.get k)∧(∀k,k<h.n→T4 v k→T4 v' k):=by
 have hm:xs.length+ys.length≤140737488355328:=Nat.le_trans (Nat.le_mul_of_pos_right _ Bz) hb
 by_cases hy:ys=[]
 ·subst hy
  refine⟨v,h,?_,by simpa using w,.refl eN wf,fun _ _ _=>rfl,fun _ _ q=>q⟩
  rw[←hA]
  cases w with
  | nil hv hx=>subst hv;rfl
  | arr id sp cap hv hg _ _=>subst hv;rfl
 ·have Jx:ys.isEmpty=false:=by cases ys<;>simp_all
  have RH:0<ys.length:=List.length_pos_iff.2 hy
  cases w with
  | nil hv hx =>
   subst hv;subst hx
   simp only[List.length_nil,Nat.zero_add]at hb hm
   refine⟨.sl h.n sz 0 ys.length,h.push (.arr ety sz ys none),?_,.arr h.n [] none rfl (by simp[cJ]) (by exact bI) eN,(Ext.refl eN wf).push,fun k hk _=>by rw[cJ,if_neg (by omega)],fun k hk _ dI off' len' e=>by injection e;omega⟩
   rw[←hA]
   simp only[bF,Jx]
   rw[if_neg (by simp),if_pos ⟨hb,by omega⟩]
  | arr id sp cap hv hg hl hi =>
   subst hv
   have aZ:=aC hg
   have cT:∀k,T4 (.sl id sz 0 xs.length) k→k≠id:=fun k q e=>by subst e;exact q _ _ _ rfl
   by_cases Py:xs.length+ys.length≤(xs++sp).length
   ·refine⟨.sl id sz 0 (xs.length+ys.length),h.set id (.arr ety sz (cF (xs++sp) ys xs.length) cap),?_,.arr id (sp.drop ys.length) cap (by simp) ?_ (by exact hl) hi,(Ext.refl eN wf).set hi aZ,fun k _ q=>by rw[cO wf aZ,if_neg (cT k q)],fun k _ q dI off' len' e=>by injection e with e1;exact cT k q e1.symm⟩
    ·rw[←hA];exact mS hg Py hl hb Bz hy
    ·rw[cO wf aZ,if_pos rfl]
     simp only[cF,List.take_left',List.append_assoc]
     congr 3
     rw[List.drop_append]
     simp
   ·cases cap with
    | none =>
     refine⟨.sl h.n sz 0 (xs.length+ys.length),(h.set id .dead).push (.arr ety sz (xs++ys) none),?_,.arr h.n [] none (by simp) ?_ (by exact bI) eN,((Ext.refl eN wf).set hi aZ).push,fun k hk q=>by rw[cJ,if_neg (by show ¬k=h.n;omega),cO wf aZ,if_neg (cT k q)],fun k hk _ dI off' len' e=>by injection e;omega⟩
     ·rw[←hA]
      simp only[bF,Jx,hg]
      simp only[Bool.false_eq_true,if_false,true_and,Nat.zero_add,List.drop_zero]
      rw[if_pos ⟨by simp,hb,by omega⟩,if_neg Py,if_pos hl]
      simp
     ·simpa using cX (h:=h.set id .dead)
    | some c =>
     refine⟨.sl h.n sz 0 (xs.length+ys.length),h.push (.arr ety sz (xs++ys) none),?_,.arr h.n [] none (by simp) ?_ (by exact bI) eN,(Ext.refl eN wf).push,fun k hk _=>by rw[cJ,if_neg (by omega)],fun k hk _ dI off' len' e=>by injection e;omega⟩
     ·rw[←hA]
      rw[jE hg (by simp) (by omega) hb Bz hy]
      simp
     ·simpa using cX (h:=h)
def zD(tree:ID):List bM→List bM→List bM→List bM×List bM
 | done,[],DQ=>(done,DQ)
 | done,e::r,DQ=>if e.tree=tree∧e.up=false∧eG (done++e::r) tree e.pred=false then zD tree (done++[{e with up:=true}]) r (DQ++[{e with up:=true}])else zD tree (done++[e]) r DQ
def xA(b : aL)(tree sub : ID)(lW : Int) : aL × List bM × Bool :=
  match b.entries.find? (isE tree sub)with
  | none => (b, [], false)
  | some e => if e.lW = lW then
      (if e.up = true then({ b with entries := (zD tree [] (b.entries.filter fun x => !isE tree sub x) []).1 }, (zD tree [] (b.entries.filter fun x => !isE tree sub x) []).2, true)
       else({ b with entries := b.entries.filter fun x => !isE tree sub x }, [], false))
    else(b, [], false)
end Go.Dm.Tc
/-
What functions of the program compute,part 19: an entry taken out (the loop).
-/
namespace Go.Dm.Tc
end Go.Dm.Tc
/-
What functions of the program compute,part 20: an entry taken out.
-/
namespace Go.Dm.Tc
end Go.Dm.Tc
/-
What the reference's functions compute,part 8: an entry taken out (the loop).
-/
namespace Go.Dm.Tc
end Go.Dm.Tc
/-
What the reference's functions compute,part 9: an entry taken out.
-/
namespace Go.Dm.Tc
end Go.Dm.Tc
