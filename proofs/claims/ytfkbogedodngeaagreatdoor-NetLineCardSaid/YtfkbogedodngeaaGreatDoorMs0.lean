/- A part of the proof. -/
import Derived.Test.YtfkbogedodngeaaGreatDoorTcE
import Derived.Test.YtfkbogedodngeaaGreatDoorMm5
set_option linter.all false
namespace Go.Dm.Tc
def qT:Option Nat→Int
 | some i=>i
 | none=>-1
theorem l222(t:Bool)(xs:List bL)(g:Nat)(cap:List DV)(p:bL→Bool)(hg:∀x∈xs,∀h,fc D g ([bR x]++cap) h=some (.bool (p x),h))(hl:xs.length≤1000000) :
  ∀(rest:List bL) (i:Nat) (f:eN) (h:aA),xs.drop i=rest→f 0=eL t 7 bR xs→f 1=.func g cap→f 7=.int .i64 xs.length→f 8=.int .i64 i →
  oK (fin [.t 4] (run D 19 [.block 0,.seq Ye] (.loop Nk) f h))=some (.int .i64 (qT ((rest.findIdx? p).map (·+i)))):=by
 intro rest
 induction rest with
 | nil =>
  intro i f h hd h0 h1 h7 h8
  have hi:=lR hd
  have:¬(i<xs.length):=by omega
  rw[aO Nk.eq_1]
  simp[Ye,h7,h8,this,qT]
 | cons e rest ih =>
  intro i f h hd h0 h1 h7 h8
  obtain⟨hi,he,tN⟩:=nG hd
  have Mi:=hg e (by rw[←he];exact List.getElem_mem hi)
  simp only[bR,List.cons_append,List.nil_append]at Mi
  rw[aO Nk.eq_1]
  cases hp:p e with
  | true=>simp[h0,h1,h7,h8,hi,he,bR,Mi,hp,qT,List.findIdx?_cons]
  | false =>
   simp[h0,h1,h7,h8,hi,he,bR,Mi,hp]
   rw[bK (by omega) (by omega)]
   refine(ih (i+1) _ h tN ?_ ?_ ?_ ?_).trans ?_<;>simp[h0,h1,h7,List.findIdx?_cons,hp]
   congr 2
   funext q
   simp
   omega
theorem s222(t:Bool)(xs:List bL)(g:Nat)(cap:List DV)(p:bL→Bool)(hg:∀x∈xs,∀h,fc D g ([bR x]++cap) h=some (.bool (p x),h))(hl:xs.length≤1000000) :
  pcF D W9 [eL t 7 bR xs,.func g cap]=some (.int .i64 (qT (xs.findIdx? p))):=by
 unfold pcF
 rw[aP _ _ _ _ (by simp[W9])]
 simp[W9]
 refine(l222 t xs g cap p hg hl xs 0 _ _ rfl ?_ ?_ ?_ ?_).trans ?_<;>simp
theorem JF{α:Type}(p:α→Bool)(xs:List α):decide (0≤qT (xs.findIdx? p))=xs.any p:=by
 cases h:xs.findIdx? p with
 | none =>
  rw[List.findIdx?_eq_none_iff]at h
  simp only[qT]
  have:xs.any p=false:=by rw[List.any_eq_false];exact fun x hx=>by simp[h x hx]
  rw[this];rfl
 | some i =>
  have:=List.findIdx?_eq_some_iff_getElem.1 h
  obtain⟨hi,hp,_⟩:=this
  have:xs.any p=true:=List.any_eq_true.2 ⟨_,List.getElem_mem hi,hp⟩
  rw[this]
  simp[qT]
end Go.Dm.Tc
/-
What functions of the library compute,part 2: comparisons by a function,rows that rise,searches by halves.
-/
namespace Go.Dm.Tc
def kC{α:Type}(p:α→α→Bool):List α→Bool
 | a::b::r=>p a b && kC p (b::r)
 | _=>true
end Go.Dm.Tc
/-
What functions of the library compute,part 3: the search by halves.
-/
namespace Go.Dm.Tc
def dS{α:Type}(cm:α→Int)(xs:List α):Nat:=xs.findIdx fun x=>!decide (cm x<0)
def pT{α:Type}(cm:α→Int)(xs:List α):Bool:=match xs[dS cm xs]? with|some x=>decide (cm x=0)|none=>false
theorem wZ{α:Type}(cm:α→Int)(xs:List α):dS cm xs≤xs.length:=List.findIdx_le_length
theorem Cn{α:Type}{cm:α→Int}{xs:List α}{k:Nat}(hk:k≤xs.length)(h1:∀q (hq:q<k),cm (xs[q]'(by omega))<0)(h2:∀(hq:k<xs.length),¬cm xs[k]<0):dS cm xs=k:=by
 unfold dS
 rcases Nat.lt_or_eq_of_le hk with aY|rfl
 ·rw[List.findIdx_eq aY]
  refine⟨by simpa using h2 aY,fun j hj=>by simpa using h1 j hj⟩
 ·rw[List.findIdx_eq_length]
  intro x hx
  obtain⟨i,hi,rfl⟩:=List.mem_iff_getElem.1 hx
  simpa using h1 i hi
theorem l276(t:Bool)(xs:List ID)(c s:Int)(g:Nat)(cap:List DV)(cm:ID→Int)(hg:∀x∈xs,∀h,fc D g ([eID x,.agg [.int .i64 c,.int .i64 s]]++cap) h=some (.int .i64 (cm x),h))(hl:xs.length≤1000000)
  (hm:∀i j (hi:i<xs.length) (hj:j<xs.length),i≤j→cm xs[j]<0→cm xs[i]<0) (h:aA) (cp:Option Nat) (Ri:h.get 0=some (.arr 45 2 [.agg [.int .i64 c,.int .i64 s]] cp)) :
  ∀(n i j:Nat) (f:eN),j-i=n→i≤j→j≤xs.length→f 0=eL t 2 eID xs→f 2=.func g cap→f 4=.ptr 0 2 0 0→f 8=.int .i64 xs.length→f 9=.int .i64 i→f 10=.int .i64 j →
  (∀q (hq:q<i),(Bs:q<xs.length)→cm xs[q]<0)→(∀q (hq:q<xs.length),j≤q→¬cm xs[q]<0) →
  oK (fin [.t 6,.t 7] (run D 49 [.block 0,.seq Nh] (.loop Ya) f h))=some (.tup [.int .i64 (dS cm xs),.bool (pT cm xs)]):=by
 intro n
 induction n using Nat.strongRecOn with
 | ind n ih =>
  intro i j f hn LQ hj h0 h2 h4 h8 h9 sU Hk vO
  rw[aO Ya.eq_1]
  by_cases aY:i<j
  ·have hk:(i+j) / 2<xs.length:=by omega
   have PI:xs[(i+j) / 2]?=some xs[(i+j) / 2]:=List.getElem?_eq_getElem hk
   have Mi:=hg xs[(i+j) / 2] (List.getElem_mem hk)
   simp only[eID,List.cons_append,List.nil_append]at Mi
   have w1:IntKind.i64.wrap ((i:Int)+j)=((i:Int)+j):=bK (by omega) (by omega)
   have w2:IntKind.u64.wrap ((i:Int)+j)=((i:Int)+j):=Mx (by omega) (by omega)
   have w3:IntKind.i64.wrap (((i+j) / 2:Nat):Int)=((i+j) / 2:Nat):=bK (by omega) (by omega)
   have w4:IntKind.i64.wrap ((((i+j) / 2:Nat):Int)+1)=((((i+j) / 2:Nat):Int)+1):=bK (by omega) (by omega)
   by_cases hc:cm xs[(i+j) / 2]<0
   ·simp[h0,h2,h4,h8,h9,sU,aY,hk,PI,Ri,Mi,eID,w1,w2,w3,w4,hc,-Int.natCast_ediv]
    refine ih (j-((i+j) / 2+1)) (by omega) ((i+j) / 2+1) j _ rfl (by omega) hj ?_ ?_ ?_ ?_ ?_ ?_ ?_ vO<;>try simp[h0,h2,h4,h8,sU,eID]
    intro q hq Bs
    exact hm q ((i+j) / 2) Bs hk (by omega) hc
   ·simp[h0,h2,h4,h8,h9,sU,aY,hk,PI,Ri,Mi,eID,w1,w2,w3,w4,hc,-Int.natCast_ediv]
    refine ih ((i+j) / 2-i) (by omega) i ((i+j) / 2) _ rfl (by omega) (by omega) ?_ ?_ ?_ ?_ ?_ ?_ Hk ?_<;>simp[h0,h2,h4,h8,h9,eID]
    intro q hq Bs
    exact Int.not_lt.1 fun hx=>hc (hm ((i+j) / 2) q hk hq Bs hx)
  ·have hij':i=j:=by omega
   subst hij'
   have dY:dS cm xs=i:=Cn hj (fun q hq=>Hk q hq (by omega)) (fun hq=>vO i hq (Nat.le_refl i))
   by_cases hi:i<xs.length
   ·have Mi:=hg xs[i] (List.getElem_mem hi)
    simp only[eID,List.cons_append,List.nil_append]at Mi
    have PI:xs[i]?=some xs[i]:=List.getElem?_eq_getElem hi
    simp[Nh,h0,h2,h4,h8,h9,sU,hi,PI,Ri,Mi,eID,dY,pT,aT]
    rfl
   ·simp[Nh,h0,h2,h4,h8,h9,sU,hi,dY,pT,aT]
theorem s276(t:Bool)(xs:List ID)(c s:Int)(g:Nat)(cap:List DV)(cm:ID→Int)(hg:∀x∈xs,∀h,fc D g ([eID x,.agg [.int .i64 c,.int .i64 s]]++cap) h=some (.int .i64 (cm x),h))(hl:xs.length≤1000000)
  (hm:∀i j (hi:i<xs.length) (hj:j<xs.length),i≤j→cm xs[j]<0→cm xs[i]<0) :
  pcF D W4 [eL t 2 eID xs,.agg [.int .i64 c,.int .i64 s],.func g cap]=some (.tup [.int .i64 (dS cm xs),.bool (pT cm xs)]):=by
 unfold pcF
 rw[aP _ _ _ _ (by simp[W4])]
 simp[W4]
 refine l276 t xs c s g cap cm hg hl hm _ (some 1) (by simp) xs.length 0 xs.length _ (by omega) (by omega) (by omega) ?_ ?_ ?_ ?_ ?_ ?_ ?_ ?_<;>simp
 intro q hq Bs
 omega
theorem l183(t:Bool)(xs:List cQ)(c s:Int)(g:Nat)(cap:List DV)(cm:cQ→Int)(hg:∀x∈xs,∀h,fc D g ([aJ x,.agg [.int .i64 c,.int .i64 s]]++cap) h=some (.int .i64 (cm x),h))(hl:xs.length≤1000000)
  (hm:∀i j (hi:i<xs.length) (hj:j<xs.length),i≤j→cm xs[j]<0→cm xs[i]<0) (h:aA) (cp:Option Nat) (Ri:h.get 0=some (.arr 45 2 [.agg [.int .i64 c,.int .i64 s]] cp)) :
  ∀(n i j:Nat) (f:eN),j-i=n→i≤j→j≤xs.length→f 0=eL t 4 aJ xs→f 2=.func g cap→f 4=.ptr 0 2 0 0→f 8=.int .i64 xs.length→f 9=.int .i64 i→f 10=.int .i64 j →
  (∀q (hq:q<i),(Bs:q<xs.length)→cm xs[q]<0)→(∀q (hq:q<xs.length),j≤q→¬cm xs[q]<0) →
  oK (fin [.t 6,.t 7] (run D 49 [.block 0,.seq Nl] (.loop Yf) f h))=some (.tup [.int .i64 (dS cm xs),.bool (pT cm xs)]):=by
 intro n
 induction n using Nat.strongRecOn with
 | ind n ih =>
  intro i j f hn LQ hj h0 h2 h4 h8 h9 sU Hk vO
  rw[aO Yf.eq_1]
  by_cases aY:i<j
  ·have hk:(i+j) / 2<xs.length:=by omega
   have PI:xs[(i+j) / 2]?=some xs[(i+j) / 2]:=List.getElem?_eq_getElem hk
   have Mi:=hg xs[(i+j) / 2] (List.getElem_mem hk)
   simp only[aJ,List.cons_append,List.nil_append]at Mi
   have w1:IntKind.i64.wrap ((i:Int)+j)=((i:Int)+j):=bK (by omega) (by omega)
   have w2:IntKind.u64.wrap ((i:Int)+j)=((i:Int)+j):=Mx (by omega) (by omega)
   have w3:IntKind.i64.wrap (((i+j) / 2:Nat):Int)=((i+j) / 2:Nat):=bK (by omega) (by omega)
   have w4:IntKind.i64.wrap ((((i+j) / 2:Nat):Int)+1)=((((i+j) / 2:Nat):Int)+1):=bK (by omega) (by omega)
   by_cases hc:cm xs[(i+j) / 2]<0
   ·simp[h0,h2,h4,h8,h9,sU,aY,hk,PI,Ri,Mi,aJ,w1,w2,w3,w4,hc,-Int.natCast_ediv]
    refine ih (j-((i+j) / 2+1)) (by omega) ((i+j) / 2+1) j _ rfl (by omega) hj ?_ ?_ ?_ ?_ ?_ ?_ ?_ vO<;>try simp[h0,h2,h4,h8,sU,aJ]
    intro q hq Bs
    exact hm q ((i+j) / 2) Bs hk (by omega) hc
   ·simp[h0,h2,h4,h8,h9,sU,aY,hk,PI,Ri,Mi,aJ,w1,w2,w3,w4,hc,-Int.natCast_ediv]
    refine ih ((i+j) / 2-i) (by omega) i ((i+j) / 2) _ rfl (by omega) (by omega) ?_ ?_ ?_ ?_ ?_ ?_ Hk ?_<;>simp[h0,h2,h4,h8,h9,aJ]
    intro q hq Bs
    exact Int.not_lt.1 fun hx=>hc (hm ((i+j) / 2) q hk hq Bs hx)
  ·have hij':i=j:=by omega
   subst hij'
   have dY:dS cm xs=i:=Cn hj (fun q hq=>Hk q hq (by omega)) (fun hq=>vO i hq (Nat.le_refl i))
   by_cases hi:i<xs.length
   ·have Mi:=hg xs[i] (List.getElem_mem hi)
    simp only[aJ,List.cons_append,List.nil_append]at Mi
    have PI:xs[i]?=some xs[i]:=List.getElem?_eq_getElem hi
    simp[Nl,h0,h2,h4,h8,h9,sU,hi,PI,Ri,Mi,aJ,dY,pT,aT]
    rfl
   ·simp[Nl,h0,h2,h4,h8,h9,sU,hi,dY,pT,aT]
theorem s183(t:Bool)(xs:List cQ)(c s:Int)(g:Nat)(cap:List DV)(cm:cQ→Int)(hg:∀x∈xs,∀h,fc D g ([aJ x,.agg [.int .i64 c,.int .i64 s]]++cap) h=some (.int .i64 (cm x),h))(hl:xs.length≤1000000)
  (hm:∀i j (hi:i<xs.length) (hj:j<xs.length),i≤j→cm xs[j]<0→cm xs[i]<0) :
  pcF D X6 [eL t 4 aJ xs,.agg [.int .i64 c,.int .i64 s],.func g cap]=some (.tup [.int .i64 (dS cm xs),.bool (pT cm xs)]):=by
 unfold pcF
 rw[aP _ _ _ _ (by simp[X6])]
 simp[X6]
 refine l183 t xs c s g cap cm hg hl hm _ (some 1) (by simp) xs.length 0 xs.length _ (by omega) (by omega) (by omega) ?_ ?_ ?_ ?_ ?_ ?_ ?_ ?_<;>simp
 intro q hq Bs
 omega
end Go.Dm.Tc
/-
What functions of the library compute,part 4: an element put into a row of the call's own.
-/
namespace Go.Dm.Tc
theorem a234(H:aA)(n0:Nat)(xs:List cQ)(i:Nat)(x:cQ)(rF vety:Nat)(vcap:Option Nat)(g0:H.get n0=some (.arr 68 4 (xs.map aJ++[.unk]) none))(gv:H.get rF=some (.arr vety 4 [aJ x] vcap))(hi:i≤xs.length)(hl:xs.length≤1000000)(wf:WF H)(bJ:H.lim≤n0)(cK:rF≠n0) :
  ∃ H',gR (ev D) yJ [.sl n0 4 0 xs.length,.int .i64 i,.sl rF 4 0 1] H=some (.sl n0 4 0 (xs.length+1),H')∧H'.get n0=some (.arr 68 4 ((xs.take i++x::xs.drop i).map aJ) none):=by
 have aY:=aB g0
 have w1:IntKind.i64.wrap ((xs.length:Int)+1)=(xs.length:Int)+1:=bK (by omega) (by omega)
 rw[aP _ _ _ _ (by simp[yJ])]
 by_cases Qe:i=xs.length
 ·subst Qe
  simp[yJ,g0,gv]
  rw[mW g0 (by simp) bJ (by simp;omega) (by decide) (by simp)]
  simp[cM wf aY,cB]
 ·have G3:¬((i:Int)=xs.length):=by omega
  have w2:IntKind.i64.wrap ((i:Int)+1)=(i:Int)+1:=bK (by omega) (by omega)
  have uJ:i+1≤xs.length+1:=by omega
  have LT:i+1+(xs.length-i)≤xs.length+1:=by omega
  have hi3:i+(xs.length+1-i)≤xs.length+1:=by omega
  have hi4:i≤xs.length+1:=by omega
  have hx:i<(xs.map aJ).length:=by simp;omega
  have e1:=Me (xs.map aJ) .unk i hx
  have e2:=R6 (xs.map aJ) (aJ x) i hx
  have hi5:xs.length+1≤min (i+1) xs.length+(xs.length-i):=by omega
  have hi6:i+1≤min (i+1) xs.length+(xs.length-i):=by omega
  simp only[List.length_map]at e1 e2
  simp[yJ,g0,gv,G3,hi,w1,w2,e1,e2,hi5,hi6,uJ,LT,hi3,hi4,e288,cX,cK,bJ,aY,cM wf,cM wf.set]
  have e3:List.take (xs.length+1-i) [aJ x]=[aJ x]:=List.take_of_length_le (by simp;omega)
  rw[e3,e2]
theorem b234(H:aA)(n0:Nat)(xs:List cQ)(i:Nat)(x:cQ)(rF vety:Nat)(vcap:Option Nat)(g0:H.get n0=some (.arr 68 4 (xs.map aJ) (some xs.length)))(gv:H.get rF=some (.arr vety 4 [aJ x] vcap))(hi:i≤xs.length)(hl:xs.length≤1000000)(wf:WF H)(bJ:H.lim≤n0)(cK:rF≠n0) :
  ∃ H',gR (ev D) yJ [.sl n0 4 0 xs.length,.int .i64 i,.sl rF 4 0 1] H=some (.sl H.n 4 0 (xs.length+1),H')∧H'.get H.n=some (.arr 68 4 ((xs.take i++x::xs.drop i).map aJ) none):=by
 have aY:=aB g0
 have WE:=aB gv
 have w1:IntKind.i64.wrap ((xs.length:Int)+1)=(xs.length:Int)+1:=bK (by omega) (by omega)
 rw[aP _ _ _ _ (by simp[yJ])]
 by_cases Qe:i=xs.length
 ·subst Qe
  simp[yJ,g0,gv]
  rw[jF g0 (by simp) (by simp) (by simp;omega) (by decide) (by simp)]
  simp
  rw[List.take_of_length_le (by simp)]
 ·have G3:¬((i:Int)=xs.length):=by omega
  have w2:IntKind.i64.wrap ((i:Int)+1)=(i:Int)+1:=bK (by omega) (by omega)
  have w3:IntKind.i64.wrap ((xs.length:Int)+1-i)=((xs.length+1-i:Nat):Int):=by rw[bK (by omega) (by omega)];omega
  have hx:i<(xs.map aJ).length:=by simp;omega
  have hq:(xs.length:Int)<(xs.length:Int)+1:=by omega
  have Rh:H.lim≤H.n:=by omega
  have hz:((xs.length+1-i:Nat):Int)≤140737488355328:=by omega
  have e1:=fun z=>Uw (xs.map aJ) z (aJ x) i hx
  have e2:=fun z=>Uv (xs.map aJ) z (aJ x) i hx
  have e3:i+(xs.length+1-i)=xs.length+1:=by omega
  have e4:i+(xs.length-i+1)=xs.length+1:=by omega
  have e5:i+1≤xs.length+1:=by omega
  have e6:i+1+(xs.length-i)≤xs.length+1:=by omega
  have e7:i≤xs.length+1:=by omega
  have e8:List.take (xs.length+1-i) [aJ x]=[aJ x]:=List.take_of_length_le (by simp;omega)
  have e9:List.take (xs.length-i) (List.drop i (List.map aJ xs))=List.drop i (List.map aJ xs):=List.take_of_length_le (by simp)
  simp only[List.length_map]at e1 e2
  simp[yJ,g0,gv,G3,hi,w1,w2,w3,hq,hz]
  rw[jF g0 (by simp;omega) (by simp;omega) (by simp;omega) (by decide) (by simp;omega)]
  simp[g0,gv,w2,hi,aY,WE,bJ,Rh,e3,e4,e5,e6,e7,e1,e2,e8,e9,Nat.ne_of_lt aY,Nat.ne_of_lt WE,Nat.min_eq_left hi]
theorem s234(lo:Nat)(h:aA)(v:DV)(xs:List cQ)(i:Nat)(x:cQ)(rF vety c:Nat)(ho:Own lo h v 68 4 (xs.map aJ))(gv:h.get rF=some (.arr vety 4 [aJ x] (some c)))(hi:i≤xs.length)(hl:xs.length≤1000000)(wf:WF h)(dY:lo≤h.n)(bJ:h.lim≤h.n) :
  ∃ v' h',fc D 234 [v,.int .i64 i,.sl rF 4 0 1] h=some (v',h')∧Own lo h' v' 68 4 ((xs.take i++x::xs.drop i).map aJ)∧Ext lo h h'∧jO 68 h h':=by
 have WE:=aB gv
 rw[e234]
 cases ho with
 | nil hv hx =>
  subst hv
  have Rg:xs=[]:=List.map_eq_nil_iff.1 hx
  subst Rg
  have G5:i=0:=by simpa using hi
  subst G5
  refine⟨.sl h.n 4 0 1,h.push (.arr 68 4 [aJ x] none),?_,.arr h.n rfl cT bJ dY,(Ext.refl dY wf).push,(jO.refl _ _).push⟩
  simp only[dE,yJ]
  rw[aP _ _ _ _ (by simp)]
  simp[gv,fC,bF]
 | arr id hv hg uH uJ =>
  subst hv
  have aY:=aB hg
  have cK:rF≠id:=by intro e;subst e;rw[gv]at hg;simp at hg
  have hw:WF (h.set id .dead):=wf.set
  have gv':∀o l,({(h.set id .dead).push o with lim:=l}:aA).get rF=some (.arr vety 4 [aJ x] (some c)):=fun o l=>by
   rw[Fg,cH,if_neg (by rw[RB];omega),cM wf aY,if_neg cK];exact gv
  have g0:∀o l,({(h.set id .dead).push o with lim:=l}:aA).get h.n=some o:=fun o l=>by
   rw[Fg];exact cT
  have iD:((xs.take i++x::xs.drop i).map aJ).all (dR 200 h.n)=true:=by
   rw[List.all_eq_true]
   intro y hy
   obtain⟨z,_,rfl⟩:=List.mem_map.1 hy
   exact(K9 z).belowN (by decide)
  have hd:List.take (xs.length+1) (List.drop 0 ((xs.take i++x::xs.drop i).map aJ))=(xs.take i++x::xs.drop i).map aJ:=by
   rw[List.drop_zero,List.take_of_length_le (by simp only[List.length_map,List.length_append,List.length_take,List.length_cons,List.length_drop];omega)]
  have sc1:iA (ev D) yJ [.int .i64 i,.sl rF 4 0 1] id 4 0 (xs.map aJ).length 68 (xs.map aJ) h 1 none=some ((xs.take i++x::xs.drop i).map aJ):=by
   obtain⟨H',k1,k2⟩:=a234 {(h.set id .dead).push (.arr 68 4 (xs.map aJ++[.unk]) none)with lim:=h.n} h.n xs i x rF vety (some c) (g0 _ _) (gv' _ _) hi hl hw.push (Nat.le_refl _) (by omega)
   simp only[iA,List.length_map,List.replicate_one]
   rw[k1]
   have cC:0+(xs.length+1)≤((xs.take i++x::xs.drop i).map aJ).length:=by simp;omega
   simp only[pM,k2,true_and,Nat.le_refl]
   rw[hd,if_pos ⟨cC,iD⟩]
  have sc2:iA (ev D) yJ [.int .i64 i,.sl rF 4 0 1] id 4 0 (xs.map aJ).length 68 (xs.map aJ) h 0 (some ((xs.map aJ).length+0))=some ((xs.take i++x::xs.drop i).map aJ):=by
   obtain⟨H',k1,k2⟩:=b234 {(h.set id .dead).push (.arr 68 4 (xs.map aJ) (some xs.length))with lim:=h.n} h.n xs i x rF vety (some c) (g0 _ _) (gv' _ _) hi hl hw.push (Nat.le_refl _) (by omega)
   simp only[iA,List.length_map,List.replicate_zero,List.append_nil,Nat.add_zero]
   rw[k1]
   have cC:0+(xs.length+1)≤((xs.take i++x::xs.drop i).map aJ).length:=by simp;omega
   have hn:h.n≤({(h.set id .dead).push (.arr 68 4 (xs.map aJ) (some xs.length))with lim:=h.n}:aA).n:=Nat.le_succ _
   simp only[pM,k2,true_and]
   rw[hd,if_pos ⟨hn,cC,iD⟩]
  have mB:uC ((xs.take i++x::xs.drop i).map aJ) ((xs.take i++x::xs.drop i).map aJ)=true:=kU _
  refine⟨.sl h.n 4 0 ((xs.take i++x::xs.drop i).map aJ).length,(h.set id .dead).push (.arr 68 4 ((xs.take i++x::xs.drop i).map aJ) none),?_,.arr h.n rfl (by exact cT) bJ dY,((Ext.refl dY wf).set uJ aY).push,((jO.refl _ _).set wf hg aY).push⟩
  simp only[dE,show yJ.mode=.split from rfl,hg,true_and,uH,if_true]
  unfold jU
  have hk:(List.map Bv [DV.int .i64 (i:Int),DV.sl rF 4 0 1]).foldl (·+·) 0=1:=rfl
  rw[hk,sc1]
  simp only[List.range_one,List.all_cons,List.all_nil,sc2,mB,Bool.and_self,if_true]
theorem q234{h:aA}{v:DV}{i rF:Nat}{A:Option (DV×aA)}(hA:fc D 234 [v,.int .i64 (i:Int),.sl rF 4 0 1] h=A)(lo:Nat)(xs:List cQ)(x:cQ){vety c:Nat}(ho:Own lo h v 68 4 (xs.map aJ))(gv:h.get rF=some (.arr vety 4 [aJ x] (some c)))(hi:i≤xs.length)(hl:xs.length≤1000000)(wf:WF h)(dY:lo≤h.n)(bJ:h.lim≤h.n) :
  ∃ v' h',A=some (v',h')∧Own lo h' v' 68 4 ((xs.take i++x::xs.drop i).map aJ)∧Ext lo h h'∧jO 68 h h':=by
 subst hA
 exact s234 lo h v xs i x rF vety c ho gv hi hl wf dY bJ
theorem a235(H:aA)(n0:Nat)(xs:List ID)(i:Nat)(x:ID)(rF vety:Nat)(vcap:Option Nat)(g0:H.get n0=some (.arr 45 2 (xs.map eID++[.unk]) none))(gv:H.get rF=some (.arr vety 2 [eID x] vcap))(hi:i≤xs.length)(hl:xs.length≤1000000)(wf:WF H)(bJ:H.lim≤n0)(cK:rF≠n0) :
  ∃ H',gR (ev D) yH [.sl n0 2 0 xs.length,.int .i64 i,.sl rF 2 0 1] H=some (.sl n0 2 0 (xs.length+1),H')∧H'.get n0=some (.arr 45 2 ((xs.take i++x::xs.drop i).map eID) none):=by
 have aY:=aB g0
 have w1:IntKind.i64.wrap ((xs.length:Int)+1)=(xs.length:Int)+1:=bK (by omega) (by omega)
 rw[aP _ _ _ _ (by simp[yH])]
 by_cases Qe:i=xs.length
 ·subst Qe
  simp[yH,g0,gv]
  rw[mW g0 (by simp) bJ (by simp;omega) (by decide) (by simp)]
  simp[cM wf aY,cB]
 ·have G3:¬((i:Int)=xs.length):=by omega
  have w2:IntKind.i64.wrap ((i:Int)+1)=(i:Int)+1:=bK (by omega) (by omega)
  have uJ:i+1≤xs.length+1:=by omega
  have LT:i+1+(xs.length-i)≤xs.length+1:=by omega
  have hi3:i+(xs.length+1-i)≤xs.length+1:=by omega
  have hi4:i≤xs.length+1:=by omega
  have hx:i<(xs.map eID).length:=by simp;omega
  have e1:=Me (xs.map eID) .unk i hx
  have e2:=R6 (xs.map eID) (eID x) i hx
  have hi5:xs.length+1≤min (i+1) xs.length+(xs.length-i):=by omega
  have hi6:i+1≤min (i+1) xs.length+(xs.length-i):=by omega
  simp only[List.length_map]at e1 e2
  simp[yH,g0,gv,G3,hi,w1,w2,e1,e2,hi5,hi6,uJ,LT,hi3,hi4,e290,cX,cK,bJ,aY,cM wf,cM wf.set]
  have e3:List.take (xs.length+1-i) [eID x]=[eID x]:=List.take_of_length_le (by simp;omega)
  rw[e3,e2]
theorem b235(H:aA)(n0:Nat)(xs:List ID)(i:Nat)(x:ID)(rF vety:Nat)(vcap:Option Nat)(g0:H.get n0=some (.arr 45 2 (xs.map eID) (some xs.length)))(gv:H.get rF=some (.arr vety 2 [eID x] vcap))(hi:i≤xs.length)(hl:xs.length≤1000000)(wf:WF H)(bJ:H.lim≤n0)(cK:rF≠n0) :
  ∃ H',gR (ev D) yH [.sl n0 2 0 xs.length,.int .i64 i,.sl rF 2 0 1] H=some (.sl H.n 2 0 (xs.length+1),H')∧H'.get H.n=some (.arr 45 2 ((xs.take i++x::xs.drop i).map eID) none):=by
 have aY:=aB g0
 have WE:=aB gv
 have w1:IntKind.i64.wrap ((xs.length:Int)+1)=(xs.length:Int)+1:=bK (by omega) (by omega)
 rw[aP _ _ _ _ (by simp[yH])]
 by_cases Qe:i=xs.length
 ·subst Qe
  simp[yH,g0,gv]
  rw[jF g0 (by simp) (by simp) (by simp;omega) (by decide) (by simp)]
  simp
  rw[List.take_of_length_le (by simp)]
 ·have G3:¬((i:Int)=xs.length):=by omega
  have w2:IntKind.i64.wrap ((i:Int)+1)=(i:Int)+1:=bK (by omega) (by omega)
  have w3:IntKind.i64.wrap ((xs.length:Int)+1-i)=((xs.length+1-i:Nat):Int):=by rw[bK (by omega) (by omega)];omega
  have hx:i<(xs.map eID).length:=by simp;omega
  have hq:(xs.length:Int)<(xs.length:Int)+1:=by omega
  have Rh:H.lim≤H.n:=by omega
  have hz:((xs.length+1-i:Nat):Int)≤140737488355328:=by omega
  have e1:=fun z=>Uw (xs.map eID) z (eID x) i hx
  have e2:=fun z=>Uv (xs.map eID) z (eID x) i hx
  have e3:i+(xs.length+1-i)=xs.length+1:=by omega
  have e4:i+(xs.length-i+1)=xs.length+1:=by omega
  have e5:i+1≤xs.length+1:=by omega
  have e6:i+1+(xs.length-i)≤xs.length+1:=by omega
  have e7:i≤xs.length+1:=by omega
  have e8:List.take (xs.length+1-i) [eID x]=[eID x]:=List.take_of_length_le (by simp;omega)
  have e9:List.take (xs.length-i) (List.drop i (List.map eID xs))=List.drop i (List.map eID xs):=List.take_of_length_le (by simp)
  simp only[List.length_map]at e1 e2
  simp[yH,g0,gv,G3,hi,w1,w2,w3,hq,hz]
  rw[jF g0 (by simp;omega) (by simp;omega) (by simp;omega) (by decide) (by simp;omega)]
  simp[g0,gv,w2,hi,aY,WE,bJ,Rh,e3,e4,e5,e6,e7,e1,e2,e8,e9,Nat.ne_of_lt aY,Nat.ne_of_lt WE,Nat.min_eq_left hi]
theorem s235(lo:Nat)(h:aA)(v:DV)(xs:List ID)(i:Nat)(x:ID)(rF vety c:Nat)(ho:Own lo h v 45 2 (xs.map eID))(gv:h.get rF=some (.arr vety 2 [eID x] (some c)))(hi:i≤xs.length)(hl:xs.length≤1000000)(wf:WF h)(dY:lo≤h.n)(bJ:h.lim≤h.n) :
  ∃ v' h',fc D 235 [v,.int .i64 i,.sl rF 2 0 1] h=some (v',h')∧Own lo h' v' 45 2 ((xs.take i++x::xs.drop i).map eID)∧Ext lo h h'∧jO 45 h h':=by
 have WE:=aB gv
 rw[e235]
 cases ho with
 | nil hv hx =>
  subst hv
  have Rg:xs=[]:=List.map_eq_nil_iff.1 hx
  subst Rg
  have G5:i=0:=by simpa using hi
  subst G5
  refine⟨.sl h.n 2 0 1,h.push (.arr 45 2 [eID x] none),?_,.arr h.n rfl cT bJ dY,(Ext.refl dY wf).push,(jO.refl _ _).push⟩
  simp only[dE,yH]
  rw[aP _ _ _ _ (by simp)]
  simp[gv,fC,bF]
 | arr id hv hg uH uJ =>
  subst hv
  have aY:=aB hg
  have cK:rF≠id:=by intro e;subst e;rw[gv]at hg;simp at hg
  have hw:WF (h.set id .dead):=wf.set
  have gv':∀o l,({(h.set id .dead).push o with lim:=l}:aA).get rF=some (.arr vety 2 [eID x] (some c)):=fun o l=>by
   rw[Fg,cH,if_neg (by rw[RB];omega),cM wf aY,if_neg cK];exact gv
  have g0:∀o l,({(h.set id .dead).push o with lim:=l}:aA).get h.n=some o:=fun o l=>by
   rw[Fg];exact cT
  have iD:((xs.take i++x::xs.drop i).map eID).all (dR 200 h.n)=true:=by
   rw[List.all_eq_true]
   intro y hy
   obtain⟨z,_,rfl⟩:=List.mem_map.1 hy
   exact(XF z).belowN (by decide)
  have hd:List.take (xs.length+1) (List.drop 0 ((xs.take i++x::xs.drop i).map eID))=(xs.take i++x::xs.drop i).map eID:=by
   rw[List.drop_zero,List.take_of_length_le (by simp only[List.length_map,List.length_append,List.length_take,List.length_cons,List.length_drop];omega)]
  have sc1:iA (ev D) yH [.int .i64 i,.sl rF 2 0 1] id 2 0 (xs.map eID).length 45 (xs.map eID) h 1 none=some ((xs.take i++x::xs.drop i).map eID):=by
   obtain⟨H',k1,k2⟩:=a235 {(h.set id .dead).push (.arr 45 2 (xs.map eID++[.unk]) none)with lim:=h.n} h.n xs i x rF vety (some c) (g0 _ _) (gv' _ _) hi hl hw.push (Nat.le_refl _) (by omega)
   simp only[iA,List.length_map,List.replicate_one]
   rw[k1]
   have cC:0+(xs.length+1)≤((xs.take i++x::xs.drop i).map eID).length:=by simp;omega
   simp only[pM,k2,true_and,Nat.le_refl]
   rw[hd,if_pos ⟨cC,iD⟩]
  have sc2:iA (ev D) yH [.int .i64 i,.sl rF 2 0 1] id 2 0 (xs.map eID).length 45 (xs.map eID) h 0 (some ((xs.map eID).length+0))=some ((xs.take i++x::xs.drop i).map eID):=by
   obtain⟨H',k1,k2⟩:=b235 {(h.set id .dead).push (.arr 45 2 (xs.map eID) (some xs.length))with lim:=h.n} h.n xs i x rF vety (some c) (g0 _ _) (gv' _ _) hi hl hw.push (Nat.le_refl _) (by omega)
   simp only[iA,List.length_map,List.replicate_zero,List.append_nil,Nat.add_zero]
   rw[k1]
   have cC:0+(xs.length+1)≤((xs.take i++x::xs.drop i).map eID).length:=by simp;omega
   have hn:h.n≤({(h.set id .dead).push (.arr 45 2 (xs.map eID) (some xs.length))with lim:=h.n}:aA).n:=Nat.le_succ _
   simp only[pM,k2,true_and]
   rw[hd,if_pos ⟨hn,cC,iD⟩]
  have mB:uC ((xs.take i++x::xs.drop i).map eID) ((xs.take i++x::xs.drop i).map eID)=true:=kU _
  refine⟨.sl h.n 2 0 ((xs.take i++x::xs.drop i).map eID).length,(h.set id .dead).push (.arr 45 2 ((xs.take i++x::xs.drop i).map eID) none),?_,.arr h.n rfl (by exact cT) bJ dY,((Ext.refl dY wf).set uJ aY).push,((jO.refl _ _).set wf hg aY).push⟩
  simp only[dE,show yH.mode=.split from rfl,hg,true_and,uH,if_true]
  unfold jU
  have hk:(List.map Bv [DV.int .i64 (i:Int),DV.sl rF 2 0 1]).foldl (·+·) 0=1:=rfl
  rw[hk,sc1]
  simp only[List.range_one,List.all_cons,List.all_nil,sc2,mB,Bool.and_self,if_true]
theorem q235{h:aA}{v:DV}{i rF:Nat}{A:Option (DV×aA)}(hA:fc D 235 [v,.int .i64 (i:Int),.sl rF 2 0 1] h=A)(lo:Nat)(xs:List ID)(x:ID){vety c:Nat}(ho:Own lo h v 45 2 (xs.map eID))(gv:h.get rF=some (.arr vety 2 [eID x] (some c)))(hi:i≤xs.length)(hl:xs.length≤1000000)(wf:WF h)(dY:lo≤h.n)(bJ:h.lim≤h.n) :
  ∃ v' h',A=some (v',h')∧Own lo h' v' 45 2 ((xs.take i++x::xs.drop i).map eID)∧Ext lo h h'∧jO 45 h h':=by
 subst hA
 exact s235 lo h v xs i x rF vety c ho gv hi hl wf dY bJ
end Go.Dm.Tc
/-
What functions of the statements' books compute: are two rows the same?
-/
namespace Go.Dm.Tc
end Go.Dm.Tc
/-
What functions of the library compute,part 6: an element taken out of a row of the call's own;elements taken out by a function.
-/
namespace Go.Dm.Tc
def lenOf:DV→Option Nat
 | .nsl=>some 0
 | .sl _ _ _ len=>some len
 | .isl _ _ xs=>some xs.length
 | _=>none
def zW(x lo hi mx:DV):Option DV :=
 match lenOf x with
 | some len=>match cF (some mx) 0 len with
  | some m=>match cF (some hi) 0 m with
   | some b=>match cF (some lo) 0 b with
    | some _=>some .unk
    | none=>none
   | none=>none
  | none=>none
 | none=>none
def zI(h:aA)(sz:Nat)(z x:DV):Option (DV×aA) :=
 match x with
 | .nsl=>some (.tup [],h)
 | .isl _ _ []=>some (.tup [],h)
 | .sl id dK off len=>if len=0 then some (.tup [],h)else match wA h sz (.sl id dK off len) (List.replicate len z)with|some (_,h')=>some (.tup [],h')|none=>none
 | _=>none
theorem Lv(c:Nat→List DV→aA→Option (DV×aA))(h:aA)(env:Env)(x lo hi mx:Opd):bC c (.slice3 x lo hi mx) env h=cV h (zW (x.eval env) (lo.eval env) (hi.eval env) (mx.eval env)):=by
 simp only[bC,aC,zW,Iu,Option.map_some]
 cases x.eval env<;>try rfl
 all_goals
  simp only[lenOf]
  generalize cF (some (mx.eval env)) 0 _=A
  cases A with
  | none=>rfl
  | some m =>
   simp only
   cases cF (some (hi.eval env)) 0 m with
   | none=>rfl
   | some b =>
    simp only
    cases cF (some (lo.eval env)) 0 b with
    | none=>rfl
    | some a=>rfl
theorem Ak(c:Nat→List DV→aA→Option (DV×aA))(h:aA)(env:Env)(sz:Nat)(z:DV)(x:Opd):bC c (.clear sz z x) env h=zI h sz z (x.eval env):=by
 simp only[bC,aC,zI]
 cases x.eval env<;>rfl
theorem Yt{id sz off len lo hi:Nat}(h1:lo≤hi)(h2:hi≤len):zW (.sl id sz off len) (.int .i64 (lo:Int)) (.int .i64 (hi:Int)) (.int .i64 (len:Int))=some .unk:=by
 simp only[zW,lenOf]
 rw[mV _ _ _ _ (Nat.le_refl _)]
 simp only
 rw[mV _ _ _ _ h2]
 simp only
 rw[mV _ _ _ _ h1]
theorem xG{h:aA}{id ety sz off len:Nat}{xs:List DV}{cap:Option Nat}{z:DV}(hg:h.get id=some (.arr ety sz xs cap))(hl:off+len≤xs.length)(bJ:h.lim≤id)(h0:len≠0) :
  zI h sz z (.sl id sz off len)=some (.tup [],h.set id (.arr ety sz (cB xs (List.replicate len z) off) cap)):=by
 simp[zI,h0,hg,hl,bJ]
theorem XG(X:List DV)(i:Nat)(hi:i+1<X.length):cB X (X.drop (i+1)) i=(X.take i++X.drop (i+1))++X.drop (X.length-1):=by
 unfold cB
 rw[List.length_drop]
 congr 2
 omega
theorem Yr(A B ys:List DV):cB (A++B) ys A.length=A++(ys++B.drop ys.length):=by
 unfold cB
 rw[List.take_left' rfl,List.append_assoc,List.drop_append]
 simp
theorem s263(lo:Nat)(h:aA)(v:DV)(xs:List cQ)(i:Nat)(ho:Own lo h v 68 4 (xs.map aJ))(hi:i<xs.length)(hl:xs.length≤1000000)(wf:WF h)(dY:lo≤h.n) :
  ∃ v' h',fc D 263 [v,.int .i64 (i:Int),.int .i64 ((i:Int)+1)] h=some (v',h')∧OwnR lo h' v' 68 4 ((xs.take i++xs.drop (i+1)).map aJ)∧Ext lo h h'∧jO 68 h h':=by
 rw[e263]
 cases ho with
 | nil hv hx =>
  have Rg:xs=[]:=List.map_eq_nil_iff.1 hx
  subst Rg
  simp at hi
 | arr id hv hg uH uJ =>
  subst hv
  have aY:=aB hg
  have hb3:zW (.sl id 4 0 xs.length) (.int .i64 (i:Int)) (.int .i64 ((i:Int)+1)) (.int .i64 (xs.length:Int))=some .unk:=Yt (hi:=i+1) (by omega) (by omega)
  have cK:¬((i:Int)=(i:Int)+1):=by omega
  rw[aP _ _ _ _ (by simp[W7])]
  by_cases hend:i+1=xs.length
  ·have h1:i+1≤xs.length:=by omega
   have e2:xs.length-(i+1)=0:=by omega
   have e3:List.drop (i+1) xs=[]:=List.drop_eq_nil_of_le (by omega)
   have e4:xs.length-i=1:=by omega
   have hn0:(i:Int)≤(xs.length:Int):=by omega
   have tO:∀z,zI h 4 z (.sl id 4 i 1)=some (.tup [],h.set id (.arr 68 4 (cB (xs.map aJ) [z] i) none)):=fun z=>xG (len:=1) hg (by simp;omega) uH (by decide)
   have PR:bF h 68 4 48 (.sl id 4 0 i) []=some (.sl id 4 0 i,h):=rfl
   have vN:i≤xs.length:=by omega
   simp[W7,Lv,Ak,hb3,cK,hg,h1,e2,e3,e4,tO,PR,vN]
   refine⟨_,_,⟨rfl,rfl⟩,.arr id [(.agg [.int .i64 0,.int .i64 0,.nsl,.int .i64 0])] none (by simp;omega) ?_ uH uJ,(Ext.refl dY wf).set uJ aY,(jO.refl _ _).set wf hg aY⟩
   rw[cM wf aY,if_pos rfl]
   simp[cB]
   omega
  ·have h1:i+1≤xs.length:=by omega
   have h2:i+1<(xs.map aJ).length:=by simp;omega
   have e1:List.take (xs.length-(i+1)) (List.drop (i+1) (List.map aJ xs))=List.drop (i+1) (List.map aJ xs):=List.take_of_length_le (by simp)
   have e5:i+1+(xs.length-(i+1))≤xs.length:=by omega
   have e6:i+(xs.length-(i+1))=xs.length-1:=by omega
   have e7:xs.length-(xs.length-1)=1:=by omega
   have vN:i≤xs.length:=by omega
   have hq:xs.length-1≤xs.length:=by omega
   obtain⟨H,hH⟩:∃ H,H=h.set id (.arr 68 4 ((xs.map aJ).take i++(xs.map aJ).drop (i+1)++(xs.map aJ).drop (xs.length-1)) none):=⟨_,rfl⟩
   have PR:bF h 68 4 48 (.sl id 4 0 i) (List.drop (i+1) (List.map aJ xs))=some (.sl id 4 0 (xs.length-1),H):=by
    rw[mW hg (by simp;omega) uH (by simp;omega) (by decide) (by simp;omega),XG _ _ h2,hH]
    simp[e6]
   have gH:H.get id=some (.arr 68 4 ((xs.map aJ).take i++(xs.map aJ).drop (i+1)++(xs.map aJ).drop (xs.length-1)) none):=by rw[hH,cM wf aY,if_pos rfl]
   have lH:H.lim=h.lim:=by rw[hH];rfl
   have wH:WF H:=by rw[hH];exact wf.set
   have nH:H.n=h.n:=by rw[hH];rfl
   have RO:(List.take i (xs.map aJ)++List.drop (i+1) (xs.map aJ)).length=xs.length-1:=by simp;omega
   have tO:∀z,zI H 4 z (.sl id 4 (xs.length-1) 1)=some (.tup [],H.set id (.arr 68 4 (cB ((xs.map aJ).take i++(xs.map aJ).drop (i+1)++(xs.map aJ).drop (xs.length-1)) [z] (xs.length-1)) none)):=fun z=>xG (len:=1) gH (by simp;omega) (by rw[lH];exact uH) (by decide)
   have Cr:IntKind.i64.wrap ((xs.length-1:Nat):Int)=((xs.length-1:Nat):Int):=bK (by omega) (by omega)
   have F7:Og 4 4 id 0 (xs.length-1) (some (.int .i64 ((xs.length-1:Nat):Int))) (some (.int .i64 ((xs.length:Nat):Int))) (H.get id)=some (.sl id 4 (xs.length-1) 1):=by
    have hL:(List.take i (xs.map aJ)++List.drop (i+1) (xs.map aJ)++List.drop (xs.length-1) (xs.map aJ)).length=xs.length:=by simp;omega
    rw[gH,Dp,hL,if_pos ⟨rfl,rfl,by omega⟩,mV _ _ _ _ (by omega),Do,mV _ _ _ _ (by omega),Ll]
    simp[e7]
   simp[W7,Lv,Ak,hb3,cK,hg,h1,e1,PR,vN,F7,tO]
   refine⟨_,_,⟨rfl,rfl⟩,.arr id [(.agg [.int .i64 0,.int .i64 0,.nsl,.int .i64 0])] none (by simp;omega) ?_ ?_ uJ,?_,?_⟩
   ·rw[cM wH (by rw[nH];exact aY),if_pos rfl]
    have:=Yr (List.take i (xs.map aJ)++List.drop (i+1) (xs.map aJ)) (List.drop (xs.length-1) (xs.map aJ)) [(.agg [.int .i64 0,.int .i64 0,.nsl,.int .i64 0])]
    rw[RO]at this
    rw[List.append_assoc]at this
    rw[this]
    simp
    omega
   ·show H.lim≤id
    rw[lH];exact uH
   ·rw[hH]
    exact((Ext.refl dY wf).set uJ aY).set uJ (by exact aY)
   ·rw[hH]
    exact((jO.refl _ _).set wf hg aY).set wf.set hg (by exact aY)
end Go.Dm.Tc
/-
What functions of the library compute,part 7: elements taken out by a function.
-/
namespace Go.Dm.Tc
def Xk:DV:=.agg [.int .i64 0,.int .i64 0,.int .i64 0,.int .i64 0,.nsl,.int .i64 0,.bool false]
theorem l264(lo:Nat)(h:aA)(xs:List bL)(id g:Nat)(cap:List DV)(p:bL→Bool)(hl:xs.length≤1000000)(uJ:lo≤id)(bJ:h.lim≤id)(aY:id<h.n)(dY:lo≤h.n)
  (Hm:∃ s ys c,h.get id=some (.arr 70 s ys c))
  (EA:∀x∈xs,∀h',Ext lo h h'→fc D g ([bR x]++cap) h'=some (.bool (p x),h')) :
  ∀(rest:List bL) (j k:Nat) (kept zs:List bL) (f:eN) (H:aA),xs.drop j=rest→k<j→kept.length=k→zs.length=xs.length→zs.take k=kept→zs.drop j=rest→k<xs.length →
   H.get id=some (.arr 70 7 (zs.map bR) none)→f 0=.sl id 7 0 xs.length→f 1=.func g cap→f 5=.int .i64 k→f 6=.int .i64 j→Ext lo h H→jO 70 h H→h.n≤H.n →
  ∃ v' h',fin [.t 4] (run D 42 [.block 0,.seq Yb] (.loop Ni) f H)=some (v',h')∧OwnR lo h' v' 70 7 ((kept++rest.filter (fun x=>!p x)).map bR)∧Ext lo h h'∧jO 70 h h':=by
 obtain⟨s0,ys0,c0,Hm⟩:=Hm
 intro rest
 induction rest with
 | nil =>
  intro j k kept zs f H hd hkj RQ RG htk hdj Xj hg h0 h1 h5 h6 hx hK hn
  have hi:=lR hd
  have hnl:¬(j<xs.length):=by omega
  have hkl':k≤xs.length:=by omega
  have hd0:xs.length-k≠0:=by omega
  have tO:∀z,zI H 7 z (.sl id 7 k (xs.length-k))=some (.tup [],H.set id (.arr 70 7 (cB (zs.map bR) (List.replicate (xs.length-k) z) k) none)):=fun z=>xG hg (by simp;omega) (by rw[hx.lim];exact bJ) hd0
  have hltH:id<H.n:=by omega
  have hspl:∀zs':List DV,zs'.length=xs.length-k→cB (List.map bR zs) zs' k=kept.map bR++zs':=fun zs' hz=>by
   unfold cB
   rw[←List.map_take,htk,List.drop_eq_nil_of_le (by simp;omega),List.append_nil]
  have F7:(List.map bR kept++List.replicate (xs.length-k) Xk).length=xs.length:=by simp;omega
  rw[aO Ni.eq_1]
  simp[Yb,h0,h5,h6,hnl,hg,RG,hkl',Ak,tO,hx.wf,hltH,hspl]
  rw[show(DV.agg [.int .i64 0,.int .i64 0,.int .i64 0,.int .i64 0,.nsl,.int .i64 0,.bool false])=Xk from rfl]
  have hkl2:k≤kept.length+(xs.length-k):=by omega
  have hkl3:xs.length≤kept.length+(xs.length-k):=by omega
  simp[hkl2,hkl3]
  refine⟨_,_,⟨rfl,rfl⟩,.arr id (List.replicate (xs.length-k) Xk) none (by simp;omega) ?_ ?_ uJ,?_,?_⟩
  ·rw[cM hx.wf hltH,if_pos rfl]
  ·show H.lim≤id
   rw[hx.lim];exact bJ
  ·exact hx.set uJ hltH
  ·exact hK.set hx.wf Hm hltH
 | cons e rest ih =>
  intro j k kept zs f H hd hkj RQ RG htk hdj Xj hg h0 h1 h5 h6 hx hK hn
  obtain⟨hi,he,tN⟩:=nG hd
  have hltH:id<H.n:=by omega
  have hnid:¬id=H.n:=by omega
  have hlimH:H.lim≤H.n:=by rw[hx.lim];omega
  have hlimI:H.lim≤id:=by rw[hx.lim];exact bJ
  obtain⟨hjy,hyj,hdj'⟩:=nG hdj
  have hyj':(zs.map bR)[j]?=some (bR e):=by rw[List.getElem?_map,List.getElem?_eq_getElem hjy,hyj];rfl
  have Mi:=EA e (by rw[←he];exact List.getElem_mem hi)
  simp only[bR]at Mi
  have Jf:=hx.push (o:=.arr 70 7 [bR e] (some 1))
  have hgx1:=Mi _ Jf
  simp only[bR,List.cons_append,List.nil_append]at hgx1
  simp only[bR,List.getElem?_map]at hyj'
  rw[aO Ni.eq_1]
  have LR:∀q:Nat,q<xs.length→aS 7 (.sl id 7 0 xs.length) (.int .i64 (q:Int))=some (.ptr id 7 q 0):=fun q hq=>by simp[aS,asI,hq]
  have hkn':k<zs.length:=by omega
  have RH:(zs.map bR)[k]?=some (bR zs[k]):=by rw[List.getElem?_map,List.getElem?_eq_getElem hkn'];rfl
  simp only[bR,List.getElem?_map]at RH
  cases hp:p e with
  | true =>
   rw[hp]at hgx1
   simp[h0,h1,h5,h6,hi,LR,hg,hyj',hlimH,hgx1]
   rw[bK (by omega) (by omega)]
   have hf:(e::rest).filter (fun x=>!p x)=rest.filter (fun x=>!p x):=by simp[hp]
   rw[hf]
   rw[←List.map_append]
   refine ih (j+1) k kept zs _ (H.push (.arr 70 7 [bR e] (some 1))) tN (by omega) RQ RG htk hdj' Xj ?_ ?_ ?_ ?_ ?_ Jf hK.push (by show h.n≤H.n+1;omega)
   ·rw[cH,if_neg hnid];exact hg
   all_goals simp[h0,h1,h5]
  | false =>
   rw[hp]at hgx1
   have Xh:IntKind.i64.wrap ((k:Int)+1)=(k:Int)+1:=bK (by omega) (by omega)
   have hw2:IntKind.i64.wrap ((j:Int)+1)=(j:Int)+1:=bK (by omega) (by omega)
   have hf:(e::rest).filter (fun x=>!p x)=e::rest.filter (fun x=>!p x):=by simp[hp]
   rw[hf,List.append_cons]
   generalize uN:kept++[e]=kept'
   simp[h0,h1,h5,h6,hi,LR,hg,hyj',hlimH,hgx1,Xj,RH,hlimI,hnid,Xh,hw2,turn,hltH]
   rw[←List.map_append]
   have sK:(List.map bR zs).set k (DV.agg [.int .i64 e.tree.bG,.int .i64 e.tree.seq,.int .i64 e.sub.bG,.int .i64 e.sub.seq,eX e.pred,.int .i64 e.lX,.bool e.up])=(zs.set k e).map bR:=by rw[List.map_set];rfl
   rw[sK]
   refine ih (j+1) (k+1) kept' (zs.set k e) _ ((H.set id (.arr 70 7 ((zs.set k e).map bR) none)).push (.arr 70 7 [bR e] (some 1))) tN (by omega) (by rw[←uN];simp[RQ]) (by simp[RG]) ?_ ?_ (by omega) ?_ ?_ ?_ ?_ ?_ ((hx.set uJ hltH).push) ((hK.set hx.wf Hm hltH).push) (by show h.n≤H.n+1;omega)
   ·rw[←uN,List.take_succ_eq_append_getElem (by simp;omega),List.take_set_of_le (by omega),htk];simp
   ·rw[List.drop_set_of_lt (by omega)];exact hdj'
   ·rw[cH,if_neg (by exact hnid),cM hx.wf hltH,if_pos rfl]
   all_goals simp[h0,h1]
theorem BS{α:Type}{p:α→Bool}{xs:List α}{i:Nat}(h:xs.findIdx? p=some i):i<xs.length∧(xs.filter fun x=>!p x)=xs.take i++(xs.drop (i+1)).filter fun x=>!p x:=by
 obtain⟨hi,hp,hq⟩:=List.findIdx?_eq_some_iff_getElem.1 h
 refine⟨hi,?_⟩
 have h1:(xs.take i).filter (fun x=>!p x)=xs.take i:=by
  rw[List.filter_eq_self]
  intro a ha
  obtain⟨j,hj,rfl⟩:=List.mem_iff_getElem.1 ha
  rw[List.length_take]at hj
  have:=hq j (by omega)
  simpa using this
 have h2:(xs.drop i).filter (fun x=>!p x)=(xs.drop (i+1)).filter (fun x=>!p x):=by
  rw[List.drop_eq_getElem_cons hi,List.filter_cons,hp];simp
 calc xs.filter (fun x=>!p x)=(xs.take i++xs.drop i).filter (fun x=>!p x):=by rw[List.take_append_drop]
  _=_:=by rw[List.filter_append,h1,h2]
theorem JE{α:Type}{p:α→Bool}{xs:List α}(h:xs.findIdx? p=none):(xs.filter fun x=>!p x)=xs:=by
 rw[List.findIdx?_eq_none_iff]at h
 rw[List.filter_eq_self]
 intro a ha
 simp[h a ha]
theorem s264(lo:Nat)(h:aA)(v:DV)(xs:List bL)(g:Nat)(cap fA:List DV)(p:bL→Bool)(ho:Own lo h v 70 7 (xs.map bR))(hl:xs.length≤1000000)(wf:WF h)(dY:lo≤h.n)
  (hr:resolve true h 200 (.func g cap)=some (.func g fA))
  (hp1:∀x∈xs,∀h',fc D g ([bR x]++fA) h'=some (.bool (p x),h'))
  (EA:∀x∈xs,∀h',Ext lo h h'→fc D g ([bR x]++cap) h'=some (.bool (p x),h')) :
  ∃ v' h',fc D 264 [v,.func g cap] h=some (v',h')∧OwnR lo h' v' 70 7 ((xs.filter fun x=>!p x).map bR)∧Ext lo h h'∧jO 70 h h':=by
 have yA:=fun t=>s222 t xs g fA p hp1 hl
 have PC:=ho.resolve (n:=200) true (fun y _=>(fW y).1) (by decide)
 rw[e264,aP _ _ _ _ (by simp[W6])]
 cases hf:xs.findIdx? p with
 | none =>
  rw[hf]at yA
  simp[W6,e222,-Gp,hr,PC,yA,qT]
  refine⟨_,_,⟨rfl,rfl⟩,?_,.refl dY wf,.refl _ _⟩
  rw[JE hf]
  exact ho.toR
 | some i =>
  rw[hf]at yA
  obtain⟨hi,hsp⟩:=BS hf
  have cK:¬((i:Int)=-1):=by omega
  have hw:IntKind.i64.wrap ((i:Int)+1)=(i:Int)+1:=bK (by omega) (by omega)
  cases ho with
  | nil hv hx =>
   have Rg:xs=[]:=List.map_eq_nil_iff.1 hx
   subst Rg
   simp at hi
  | arr id hv hg uH uJ =>
   subst hv
   have aY:=aB hg
   simp only[List.length_map]at PC
   simp[W6,e222,-Gp,-Lq,hr,PC,yA,qT,cK,hw]
   rw[hsp]
   refine l264 lo h xs id g cap p hl uJ uH aY dY ⟨_,_,_,hg⟩ EA _ (i+1) i (xs.take i) xs _ h rfl (by omega) (by simp;omega) rfl rfl rfl hi hg ?_ ?_ ?_ ?_ (.refl dY wf) (.refl _ _) (Nat.le_refl _)<;>simp
end Go.Dm.Tc
/-
What functions of the program compute,part 1: how advertisements are ordered and found.
-/
namespace Go.Dm.Tc
theorem Za(a:Int):pcF D Bz [.int .i64 a]=some (.bool false):=by
 unfold pcF
 rw[aP _ _ _ _ (by simp[Bz])]
 simp[Bz]
def cmpI(a b:Int):Int:=if a<b then -1 else if b<a then 1 else 0
theorem UR(a b:Int):pcF D uR [.int .i64 a,.int .i64 b]=some (.int .i64 (cmpI a b)):=by
 unfold pcF
 rw[aP _ _ _ _ (by simp[uR])]
 by_cases h1:a<b
 ·simp[uR,K7,Za,h1,cmpI]
 ·by_cases h2:b<a
  ·simp[uR,K7,Za,h1,h2,cmpI]
  ·simp[uR,K7,Za,h1,h2,cmpI]
def orI(a b:Int):Int:=if a=0 then b else a
theorem US(t:Bool)(a b:Int):pcF D Ca [.isl t 1 [.int .i64 a,.int .i64 b]]=some (.int .i64 (orI a b)):=by
 unfold pcF
 rw[aP _ _ _ _ (by simp[Ca])]
 simp[Ca]
 rw[aO sW.eq_1]
 by_cases h1:a=0
 ·simp[h1,orI,aS,asI]
  rw[aO sW.eq_1]
  by_cases h2:b=0
  ·simp[h2,aS,asI]
   rw[aO sW.eq_1]
   simp[Fv]
  ·simp[h2,aS,asI]
 ·simp[h1,orI,aS,asI]
def dF(a b:ID):Int:=orI (cmpI a.bG b.bG) (cmpI a.seq b.seq)
theorem m5(a b c d:Int):pcF D X9 [.agg [.int .i64 a,.int .i64 b],.agg [.int .i64 c,.int .i64 d]]=some (.int .i64 (dF ⟨a,b⟩ ⟨c,d⟩)):=by
 unfold pcF
 rw[aP _ _ _ _ (by simp[X9])]
 simp[X9,XC,UR,XD,mkIsl,US,dF]
def Cm(a b:ID):Bool:=decide (dF a b<0)
theorem s184(a b:Int)(p:dZ)(q c d:Int):pcF D X5 [.agg [.int .i64 a,.int .i64 b,eX p,.int .i64 q],.agg [.int .i64 c,.int .i64 d]]=some (.int .i64 (dF ⟨a,b⟩ ⟨c,d⟩)):=by
 unfold pcF
 rw[aP _ _ _ _ (by simp[X5])]
 simp[X5,e154,m5]
def eJ(l:List ID):Prop:=l.Pairwise fun a b=>dF a b<0
theorem gV{a b:ID}:dF a b<0↔a.bG<b.bG∨a.bG=b.bG∧a.seq<b.seq:=by
 unfold dF orI cmpI
 split<;>split<;>(try split)<;>(try split)<;>omega
theorem Bl{a b:ID}:dF a b=0↔a=b:=by
 cases a;cases b
 simp only[ID.mk.injEq]
 unfold dF orI cmpI
 simp only
 split<;>split<;>(try split)<;>(try split)<;>omega
theorem Ef{a b c:ID}(h1:dF a b<0)(h2:dF b c<0):dF a c<0:=by
 rw[gV]at *;omega
theorem CZ(a b:ID):dF a b<0∨a=b∨dF b a<0:=by
 rw[gV,gV]
 cases a;cases b
 simp only[ID.mk.injEq]
 omega
theorem pO{α:Type}{key:α→ID}{xs:List α}(h:eJ (xs.map key))(x:ID):∀i j (hi:i<xs.length) (hj:j<xs.length),i≤j→dF (key xs[j]) x<0→dF (key xs[i]) x<0:=by
 intro i j hi hj LQ aY
 rcases Nat.lt_or_eq_of_le LQ with hl|rfl
 ·have:=List.pairwise_iff_getElem.1 h i j (by simpa using hi) (by simpa using hj) hl
  simp only[List.getElem_map]at this
  exact Ef this aY
 ·exact aY
theorem l9(x0 x1 x2 x4 x5:DV)(t:Bool)(l:List ID)(c d:Int)(hr:eJ l)(hl:l.length≤1000000) :
  pcF D X1 [.agg [x0,x1,x2,eL t 2 eID l,x4,x5],.agg [.int .i64 c,.int .i64 d]]=some (.tup [.int .i64 (dS (fun a=>dF a ⟨c,d⟩) l),.bool (pT (fun a=>dF a ⟨c,d⟩) l)]):=by
 have hb:=s276 t l c d 154 [] (fun a=>dF a ⟨c,d⟩) (fun x _ h=>by simp[eID,e154,m5]) hl (by
  have:=pO (key:=fun a:ID=>a) (xs:=l) (by simpa using hr) ⟨c,d⟩
  exact this)
 unfold pcF
 rw[aP _ _ _ _ (by simp[X1])]
 simp[X1,e276,hb,aT]
theorem s86(x0 x1 x3 x4 x5:DV)(t:Bool)(l:List cQ)(c d:Int)(hr:eJ (l.map (·.id)))(hl:l.length≤1000000) :
  pcF D t86 [.agg [x0,x1,eL t 4 aJ l,x3,x4,x5],.agg [.int .i64 c,.int .i64 d]]=some (.tup [.int .i64 (dS (fun a=>dF a.id ⟨c,d⟩) l),.bool (pT (fun a=>dF a.id ⟨c,d⟩) l)]):=by
 have hb:=s183 t l c d 184 [] (fun a=>dF a.id ⟨c,d⟩) (fun x _ h=>by simp[aJ,e184,s184]) hl (pO hr ⟨c,d⟩)
 unfold pcF
 rw[aP _ _ _ _ (by simp[t86])]
 simp[t86,e183,hb,aT]
end Go.Dm.Tc
/-
What functions of the program compute,part 2: a broker with rows of its own;an advertisement learned.
-/
namespace Go.Dm.Tc
theorem s233(h:aA)(me:Int)(t1 t2 t3 t4 t5:Bool)(bE:List Int)(adv:List cQ)(seen:List ID)(ent:List bL)(own:List Xc)
  (l1:bE.length≤1000000) (l2:adv.length≤1000000) (l3:seen.length≤1000000) (l4:ent.length≤1000000) (l5:own.length≤1000000) (wf:WF h) (bJ:h.lim≤h.n) :
  ∃ v1 v2 v3 v4 v5 h',fc D 233 [.agg [.int .i64 me,eL t1 1 dQ bE,eL t2 4 aJ adv,eL t3 2 eID seen,eL t4 7 bR ent,eL t5 3 rJ own]] h=some (.agg [.int .i64 me,v1,v2,v3,v4,v5],h') ∧
   Own h.n h' v1 3 1 (bE.map dQ)∧Own h.n h' v2 68 4 (adv.map aJ)∧Own h.n h' v3 45 2 (seen.map eID)∧Own h.n h' v4 70 7 (ent.map bR)∧Own h.n h' v5 134 3 (own.map rJ)∧Ext h.n h h':=by
 rw[e233,aP _ _ _ _ (by simp[FG])]
 have hm:max (h.n+1+1) h.lim=h.n+2:=by omega
 simp[FG,e88,hm]
 generalize hA:bW _ _ _ _ _=A
 obtain⟨v1,H1,rfl,o1,x1,y1⟩:=Bm (lo:=h.n+2) hA (lQ ..) wf.push.push (by simp) (by simp) (by simp;omega) (by simp;omega) (by decide)
 have Rg:Ext h.n h ((h.push (.arr 37 6 [.agg [.int .i64 me,eL t1 1 dQ bE,eL t2 4 aJ adv,eL t3 2 eID seen,eL t4 7 bR ent,eL t5 3 rJ own]] (some 1))).push (.arr 37 6 [.agg [.int .i64 0,.nsl,.nsl,.nsl,.nsl,.nsl]] (some 1))):=(Ext.refl (Nat.le_refl _) wf).push.push
 have z1:=Rg.trans (x1.lower (by omega:h.n≤h.n+2))
 clear hA
 simp at x1 y1 z1 o1
 generalize hK1:wl H1 _=K1 at *
 have a1:=x1.get h.n (by omega)
 have b1:=x1.get (h.n+1) (by omega)
 have q1:=x1.lim
 have w1:=x1.wf
 have n1:=x1.le
 simp at a1 b1 q1
 simp[hK1,a1,q1,hm,e89]
 generalize hA:bW _ _ _ _ _=A
 obtain⟨v2,H2,rfl,o2,x2,y2⟩:=Bm (lo:=h.n+2) hA (lQ ..) w1 n1 n1 (by omega) (by simp;omega) (by decide)
 rw[q1]at o2 x2 y2
 have z2:=z1.trans (x2.lower (by omega:h.n≤h.n+2))
 replace o1:=o1.ext y2
 clear hA
 generalize hK2:wl H2 _=K2 at *
 have a2:=x2.get h.n (by omega)
 have b2:=x2.get (h.n+1) (by omega)
 have q2:=x2.lim
 have w2:=x2.wf
 have n2:=x2.le
 rw[a1]at a2
 rw[b1]at b2
 rw[q1]at q2
 simp[hK2,a2,q1,q2,hm,e90]
 generalize hA:bW _ _ _ _ _=A
 obtain⟨v3,H3,rfl,o3,x3,y3⟩:=Bm (lo:=h.n+2) hA (lQ ..) w2 n2 n2 (by omega) (by simp;omega) (by decide)
 rw[q2]at o3 x3 y3
 have z3:=z2.trans (x3.lower (by omega:h.n≤h.n+2))
 replace o1:=o1.ext y3
 replace o2:=o2.ext y3
 clear hA
 generalize hK3:wl H3 _=K3 at *
 have a3:=x3.get h.n (by omega)
 have b3:=x3.get (h.n+1) (by omega)
 have q3:=x3.lim
 have w3:=x3.wf
 have n3:=x3.le
 rw[a2]at a3
 rw[b2]at b3
 rw[q2]at q3
 simp[hK3,a3,q2,q3,hm,e91]
 generalize hA:bW _ _ _ _ _=A
 obtain⟨v4,H4,rfl,o4,x4,y4⟩:=Bm (lo:=h.n+2) hA (lQ ..) w3 n3 n3 (by omega) (by simp;omega) (by decide)
 rw[q3]at o4 x4 y4
 have z4:=z3.trans (x4.lower (by omega:h.n≤h.n+2))
 replace o1:=o1.ext y4
 replace o2:=o2.ext y4
 replace o3:=o3.ext y4
 clear hA
 generalize hK4:wl H4 _=K4 at *
 have a4:=x4.get h.n (by omega)
 have b4:=x4.get (h.n+1) (by omega)
 have q4:=x4.lim
 have w4:=x4.wf
 have n4:=x4.le
 rw[a3]at a4
 rw[b3]at b4
 rw[q3]at q4
 simp[hK4,a4,q3,q4,hm,e92]
 generalize hA:bW _ _ _ _ _=A
 obtain⟨v5,K5,rfl,o5,x5,y5⟩:=xF (lo:=h.n+2) (lQ ..) w4 n4 (by omega) (by simp;omega) (by decide) hA
 have z5:=z4.trans (x5.lower (by omega:h.n≤h.n+2))
 replace o1:=o1.ext y5
 replace o2:=o2.ext y5
 replace o3:=o3.ext y5
 replace o4:=o4.ext y5
 clear hA
 have a5:=x5.get h.n (by omega)
 have b5:=x5.get (h.n+1) (by omega)
 have q5:=x5.lim
 have w5:=x5.wf
 have n5:=x5.le
 rw[a4]at a5
 rw[b4]at b5
 rw[q4]at q5
 have c5:h.n<K5.n:=by omega
 have d5:h.n+1<K5.n:=by omega
 have f5:h.lim≤h.n+1:=by omega
 simp[a5,b5,q5,w5,c5,d5,f5,bJ,o1.aQ,o2.aQ,o3.aQ,o4.aQ,o5.aQ,o1.aF,o2.aF,o3.aF,o4.aF,o5.aF,turn]
 refine⟨v1,v2,v3,v4,v5,_,⟨⟨rfl,rfl,rfl,rfl,rfl⟩,rfl⟩,?_,?_,?_,?_,?_,?_⟩
 ·exact((o1.aV w5 (by omega) c5).aV w5.set (by omega) d5).lower (by omega)
 ·exact((o2.aV w5 (by omega) c5).aV w5.set (by omega) d5).lower (by omega)
 ·exact((o3.aV w5 (by omega) c5).aV w5.set (by omega) d5).lower (by omega)
 ·exact((o4.aV w5 (by omega) c5).aV w5.set (by omega) d5).lower (by omega)
 ·exact((o5.aV w5 (by omega) c5).aV w5.set (by omega) d5).lower (by omega)
 ·exact(z5.set (by omega) c5).set (by omega) d5
end Go.Dm.Tc
/-
What functions of the program compute,part 3: an advertisement learned,found.
-/
namespace Go.Dm.Tc
section
variable {α:Type} (key:α→ID)
def uG(a:α)(l:List α):List α:=l.take (dS (fun b=>dF (key b) (key a)) l)++a::l.drop (dS (fun b=>dF (key b) (key a)) l)
theorem Gk{l:List α}(h:eJ (l.map key))(x:ID):(∀i (hi:i<l.length),i<dS (fun b=>dF (key b) x) l→dF (key l[i]) x<0)∧(∀i (hi:i<l.length),dS (fun b=>dF (key b) x) l≤i→¬dF (key l[i]) x<0):=by
 constructor
 ·intro i hi aY
  have:=List.not_of_lt_findIdx (p:=fun b=>!decide (dF (key b) x<0)) aY
  simpa using this
 ·intro i hi cD hc
  have hk:dS (fun b=>dF (key b) x) l<l.length:=Nat.lt_of_le_of_lt cD hi
  have h1:¬dF (key l[dS (fun b=>dF (key b) x) l]) x<0:=by
   have:=List.findIdx_getElem (p:=fun b=>!decide (dF (key b) x<0)) (w:=hk)
   unfold dS
   simpa using this
  exact h1 (pO h x _ _ hk hi cD hc)
theorem Vg{l:List α}(h:eJ (l.map key))(x:ID):match l.find? (fun b=>key b=x)with
  | some a=>pT (fun b=>dF (key b) x) l=true∧l[dS (fun b=>dF (key b) x) l]?=some a
  | none=>pT (fun b=>dF (key b) x) l=false:=by
 obtain⟨r1,r2⟩:=Gk key h x
 have yT:∀i j (hi:i<l.length) (hj:j<l.length),key l[i]=x→key l[j]=x→i=j:=by
  intro i j hi hj e1 e2
  rcases Nat.lt_trichotomy i j with aY|he|aY
  ·have:=List.pairwise_iff_getElem.1 h i j (by simpa using hi) (by simpa using hj) aY
   simp only[List.getElem_map,e1,e2]at this
   rw[gV]at this;omega
  ·exact he
  ·have:=List.pairwise_iff_getElem.1 h j i (by simpa using hj) (by simpa using hi) aY
   simp only[List.getElem_map,e1,e2]at this
   rw[gV]at this;omega
 cases hf:l.find? (fun b=>key b=x)with
 | some a =>
  have hax:key a=x:=by simpa using List.find?_some hf
  obtain⟨i,hi,LR⟩:=List.mem_iff_getElem.1 (List.mem_of_find?_eq_some hf)
  have hk:dS (fun b=>dF (key b) x) l=i:=by
   refine Cn (Nat.le_of_lt hi) (fun q hq=>?_) (fun hq=>?_)
   ·have:=List.pairwise_iff_getElem.1 h q i (by simp;omega) (by simpa using hi) hq
    simp only[List.getElem_map,LR,hax]at this
    exact this
   ·rw[LR,hax,gV];omega
  have WO:l[dS (fun b=>dF (key b) x) l]?=some a:=by rw[hk,List.getElem?_eq_getElem hi,LR]
  refine⟨?_,WO⟩
  unfold pT
  rw[WO]
  simp only[hax]
  simp[Bl]
 | none =>
  unfold pT
  cases hg:l[dS (fun b=>dF (key b) x) l]? with
  | none=>rfl
  | some a =>
   have:key a≠x:=by
    have:=List.find?_eq_none.1 hf a (List.mem_of_getElem? hg)
    simpa using this
   simp only[decide_eq_false_iff_not]
   rw[Bl];exact this
end
theorem PM{l:List ID}(hr:eJ l)(x:ID):pT (fun b=>dF b x) l=decide (x∈l):=by
 have hf:=Vg (fun a:ID=>a) (by simpa using hr) x
 cases hq:l.find? (fun a=>a=x)with
 | none =>
  rw[hq]at hf
  simp only at hf
  rw[hf]
  have:=List.find?_eq_none.1 hq
  symm
  simp only[decide_eq_false_iff_not]
  intro hm
  exact this x hm (by simp)
 | some a =>
  rw[hq]at hf
  rw[hf.1]
  have h1:a=x:=by simpa using List.find?_some hq
  have h2:=List.mem_of_find?_eq_some hq
  rw[h1]at h2
  simp[h2]
def nV(b:aK)(x:ID):Option cQ:=b.bB.find? fun a=>a.id=x
def T7:cQ:=⟨⟨0,0⟩,[],0⟩
structure U8(b:aK):Prop where
 bE:b.bE.length≤100000
 adv:b.bB.length≤100000
 seen:b.seen.length≤100000
 ent:b.entries.length≤100000
 own:b.lI.length≤100000
def dH(b:aK)(a:cQ):aK×Bool :=
 if a.id∈b.seen then(b,false)else({b with bB:=uG (fun a=>a.id) a b.bB,seen:=uG (fun x=>x) a.id b.seen},true)
theorem o7{h:aA}{A:Option (DV×aA)}{me:Int}{t1 t2 t3 t4 t5:Bool}{bE:List Int}{adv:List cQ}{seen:List ID}{ent:List bL}{own:List Xc}(hA:fc D 233 [.agg [.int .i64 me,eL t1 1 dQ bE,eL t2 4 aJ adv,eL t3 2 eID seen,eL t4 7 bR ent,eL t5 3 rJ own]] h=A)
  (hs:U8 ⟨me,bE,adv,seen,ent,own⟩) (wf:WF h) (bJ:h.lim≤h.n) :
  ∃ v1 v2 v3 v4 v5 h',A=some (.agg [.int .i64 me,v1,v2,v3,v4,v5],h') ∧
   Own h.n h' v1 3 1 (bE.map dQ)∧Own h.n h' v2 68 4 (adv.map aJ)∧Own h.n h' v3 45 2 (seen.map eID)∧Own h.n h' v4 70 7 (ent.map bR)∧Own h.n h' v5 134 3 (own.map rJ)∧Ext h.n h h':=by
 subst hA
 obtain⟨z1,z2,z3,z4,z5⟩:=hs
 simp only at z1 z2 z3 z4 z5
 exact s233 h me t1 t2 t3 t4 t5 bE adv seen ent own (by omega) (by omega) (by omega) (by omega) (by omega) wf bJ
theorem s174(t:iJ)(b:aK)(c d:Int)(p:dZ)(q:Int)(hs:U8 b)(ra:eJ (b.bB.map (·.id)))(rs:eJ b.seen) :
  pcF D X8 [aM t b,.agg [.int .i64 c,.int .i64 d,eX p,.int .i64 q]]=some (.tup [aM .none (dH b ⟨⟨c,d⟩,p,q⟩).1,.bool (dH b ⟨⟨c,d⟩,p,q⟩).2]):=by
 obtain⟨me,bE,adv,seen,ent,own⟩:=b
 unfold pcF
 rw[aP _ _ _ _ (by simp[X8])]
 simp[X8,aM]
 generalize hA:fc D _ _ _=A
 obtain⟨v1,v2,v3,v4,v5,K,rfl,o1,o2,o3,o4,o5,x⟩:=o7 hA hs (by simp) (by simp)
 simp at o1 o2 o3 o4 o5 x
 clear hA
 have a0:=x.get 0 (by decide)
 have a1:=x.get 1 (by decide)
 have a2:=x.get 2 (by decide)
 have q0:=x.lim
 have w0:=x.wf
 have n0:=x.le
 simp at a0 a1 a2 q0
 have l0:0<K.n:=by omega
 have l2:2<K.n:=by omega
 have r1:∀o,resolve true (K.set 0 o) 199 v1=some (eL true 1 dQ bE):=fun o=>(o1.aV w0 (by decide) l0).resolve true (fun y _=>(fO y).1) (by decide)
 have r2:∀o,resolve true (K.set 0 o) 199 v2=some (eL true 4 aJ adv):=fun o=>(o2.aV w0 (by decide) l0).resolve true (fun y _=>(fX y).1) (by decide)
 have r3:∀o,resolve true (K.set 0 o) 199 v3=some (eL true 2 eID seen):=fun o=>(o3.aV w0 (by decide) l0).resolve true (fun y _=>(lG y).1) (by decide)
 have r4:∀o,resolve true (K.set 0 o) 199 v4=some (eL true 7 bR ent):=fun o=>(o4.aV w0 (by decide) l0).resolve true (fun y _=>(fW y).1) (by decide)
 have r5:∀o,resolve true (K.set 0 o) 199 v5=some (eL true 3 rJ own):=fun o=>(o5.aV w0 (by decide) l0).resolve true (fun y _=>(kK y).1) (by decide)
 have F7:seen.length≤1000000:=by have:=hs.seen;simp only at this;omega
 have BZ:adv.length≤1000000:=by have:=hs.adv;simp only at this;omega
 simp only at ra rs
 have hh:=PM rs ⟨c,d⟩
 obtain⟨R,hR⟩:∃ R,R=DV.tup [aM .none (dH ⟨me,bE,adv,seen,ent,own⟩ ⟨⟨c,d⟩,p,q⟩).1,.bool (dH ⟨me,bE,adv,seen,ent,own⟩ ⟨⟨c,d⟩,p,q⟩).2]:=⟨_,rfl⟩
 simp only[aM]at hR
 rw[←hR]
 by_cases hm:(⟨c,d⟩:ID)∈seen
 ·have r1':∀o o',resolve false ((K.set 0 o).set 2 o') 198 v1=some (eL false 1 dQ bE):=fun o o'=>((o1.aV w0 (by decide) l0).aV w0.set (by decide) l2).resolve false (fun y _=>(fO y).1) (by decide)
  have r2':∀o o',resolve false ((K.set 0 o).set 2 o') 198 v2=some (eL false 4 aJ adv):=fun o o'=>((o2.aV w0 (by decide) l0).aV w0.set (by decide) l2).resolve false (fun y _=>(fX y).1) (by decide)
  have r3':∀o o',resolve false ((K.set 0 o).set 2 o') 198 v3=some (eL false 2 eID seen):=fun o o'=>((o3.aV w0 (by decide) l0).aV w0.set (by decide) l2).resolve false (fun y _=>(lG y).1) (by decide)
  have r4':∀o o',resolve false ((K.set 0 o).set 2 o') 198 v4=some (eL false 7 bR ent):=fun o o'=>((o4.aV w0 (by decide) l0).aV w0.set (by decide) l2).resolve false (fun y _=>(fW y).1) (by decide)
  have r5':∀o o',resolve false ((K.set 0 o).set 2 o') 198 v5=some (eL false 3 rJ own):=fun o o'=>((o5.aV w0 (by decide) l0).aV w0.set (by decide) l2).resolve false (fun y _=>(kK y).1) (by decide)
  simp[a0,a1,a2,q0,w0,l0,l2,e220,l9,r1,r2,r3,r4,r5,r1',r2',r3',r4',r5',rs,F7,hh,hm,aT]
  simp[hR,dH,hm,iJ.none]
 ·simp[a0,a1,a2,q0,w0,l0,l2,e220,l9,e86,s86,r1,r2,r3,r4,r5,rs,ra,F7,BZ,hh,hm]
  generalize hA:fc D _ _ _=A
  obtain⟨v2',K2,rfl,p2,x2,k2⟩:=q234 hA 3 adv ⟨⟨c,d⟩,p,q⟩ (vety:=68) (c:=1) (o2.aV w0 (by decide) l0).push (by simp[aJ]) (wZ _ _) BZ (by simp[w0]) (by simp;omega) (by simp[q0])
  clear hA
  have b0:=x2.get 0 (by decide)
  have b1:=x2.get 1 (by decide)
  have b2:=x2.get 2 (by decide)
  have q2:=x2.lim
  have w2:=x2.wf
  have m2:=x2.le
  have z0:¬0=K.n:=by omega
  have z1:¬1=K.n:=by omega
  have z2:¬2=K.n:=by omega
  simp[a1,a2,w0,l0,q0,z0,z1,z2]at b0 b1 b2 q2
  have p1:=(((o1.aV w0 (by decide) l0).push).keep k2 x2.lim (by decide))
  have p3:=(((o3.aV w0 (by decide) l0).push).keep k2 x2.lim (by decide))
  have p4:=(((o4.aV w0 (by decide) l0).push).keep k2 x2.lim (by decide))
  have p5:=(((o5.aV w0 (by decide) l0).push).keep k2 x2.lim (by decide))
  have m0:0<K2.n:=by omega
  have m22:2<K2.n:=by omega
  simp[b0,b1,b2,q2,w2,m0,m22,p2.aQ,p2.aF,turn]
  generalize hA:fc D _ _ _=A
  obtain⟨v3',K3,rfl,p3',x3,k3⟩:=q235 hA 3 seen ⟨c,d⟩ (vety:=45) (c:=1) (p3.aV w2 (by decide) m0).push (by simp[eID]) (wZ _ _) F7 (by simp[w2]) (by simp;omega) (by simp[q2])
  clear hA
  have c0:=x3.get 0 (by decide)
  have c1:=x3.get 1 (by decide)
  have c2:=x3.get 2 (by decide)
  have q3:=x3.lim
  have w3:=x3.wf
  have m3:=x3.le
  have y0:¬0=K2.n:=by omega
  have y1:¬1=K2.n:=by omega
  have y2:¬2=K2.n:=by omega
  simp[b1,b2,w2,m0,q2,y0,y1,y2]at c0 c1 c2 q3
  have m30:0<K3.n:=by omega
  have m32:2<K3.n:=by omega
  replace p1:=((p1.aV w2 (by decide) m0).push).keep k3 x3.lim (by decide)
  replace p2:=((p2.aV w2 (by decide) m0).push).keep k3 x3.lim (by decide)
  replace p4:=((p4.aV w2 (by decide) m0).push).keep k3 x3.lim (by decide)
  replace p5:=((p5.aV w2 (by decide) m0).push).keep k3 x3.lim (by decide)
  have r1':∀o o',resolve false ((K3.set 0 o).set 2 o') 198 v1=some (eL false 1 dQ bE):=fun o o'=>((p1.aV w3 (by decide) m30).aV w3.set (by decide) m32).resolve false (fun y _=>(fO y).1) (by decide)
  have r2':=fun o o'=>((p2.aV (o:=o) w3 (by decide) m30).aV (o:=o') w3.set (by decide) m32).resolve (n:=198) false (fun y _=>(fX y).1) (by decide)
  have r3':=fun o o'=>((p3'.aV (o:=o) w3 (by decide) m30).aV (o:=o') w3.set (by decide) m32).resolve (n:=198) false (fun y _=>(lG y).1) (by decide)
  have r4':∀o o',resolve false ((K3.set 0 o).set 2 o') 198 v4=some (eL false 7 bR ent):=fun o o'=>((p4.aV w3 (by decide) m30).aV w3.set (by decide) m32).resolve false (fun y _=>(fW y).1) (by decide)
  have r5':∀o o',resolve false ((K3.set 0 o).set 2 o') 198 v5=some (eL false 3 rJ own):=fun o o'=>((p5.aV w3 (by decide) m30).aV w3.set (by decide) m32).resolve false (fun y _=>(kK y).1) (by decide)
  simp[c0,c1,c2,q3,w3,m30,m32,p3'.aQ,p3'.aF,turn,r1',r2',r3',r4',r5',aT]
  simp[hR,dH,hm,iJ.none,uG]
end Go.Dm.Tc
/-
What functions of the program compute,part 4: are two brokers the same?
-/
namespace Go.Dm.Tc
structure SizedP(b:aK):Prop where
 adv:∀x∈b.bB,x.pred.length≤1000000
 ent:∀x∈b.entries,x.pred.length≤1000000
 own:∀x∈b.lI,x.pred.length≤1000000
end Go.Dm.Tc
/-
What functions of the program compute,part 5: the statements' own comparisons of brokers.
-/
namespace Go.Dm.Tc
end Go.Dm.Tc
/-
What functions of the statements' own packages compute: numbers brought into bounds;predicates El of numbers;a broker copied.
-/
namespace Go.Dm.Tc
def hJ(n lo hi:Int):Int:=if n.tmod (hi-lo+1)<0 then lo+(n.tmod (hi-lo+1)+hi-lo+1)else lo+n.tmod (hi-lo+1)
theorem s10(n lo hi:Int)(h:lo≤hi)(dY:-1000000000≤lo)(Qf:hi≤1000000000):pcF D t10 [.int .i64 n,.int .i64 lo,.int .i64 hi]=some (.int .i64 (hJ n lo hi)):=by
 unfold pcF
 rw[aP _ _ _ _ (by simp[t10])]
 have h1:0<hi-lo+1:=by omega
 have h2:=Int.tmod_lt_of_pos n h1
 have h3:-(hi-lo+1)<n.tmod (hi-lo+1):=by
  have:=Int.lt_tmod_of_pos n h1
  omega
 have w1:IntKind.i64.wrap (hi-lo)=hi-lo:=bK (by omega) (by omega)
 have w2:IntKind.i64.wrap (hi-lo+1)=hi-lo+1:=bK (by omega) (by omega)
 have cK:hi-lo+1≠0:=by omega
 have hr:bX .rem (.int .i64 n) (.int .i64 (hi-lo+1))=some (.int .i64 (n.tmod (hi-lo+1))):=by simp[bX,cK]
 by_cases Qc:n.tmod (hi-lo+1)<0
 ·have w3:IntKind.i64.wrap (n.tmod (hi-lo+1)+hi)=n.tmod (hi-lo+1)+hi:=bK (by omega) (by omega)
  have w4:IntKind.i64.wrap (n.tmod (hi-lo+1)+hi-lo)=n.tmod (hi-lo+1)+hi-lo:=bK (by omega) (by omega)
  have w5:IntKind.i64.wrap (n.tmod (hi-lo+1)+hi-lo+1)=n.tmod (hi-lo+1)+hi-lo+1:=bK (by omega) (by omega)
  have w6:IntKind.i64.wrap (lo+(n.tmod (hi-lo+1)+hi-lo+1))=lo+(n.tmod (hi-lo+1)+hi-lo+1):=bK (by omega) (by omega)
  simp[t10,w1,w2,hr,Qc,w3,w4,w5,w6,hJ]
 ·have w6:IntKind.i64.wrap (lo+n.tmod (hi-lo+1))=lo+n.tmod (hi-lo+1):=bK (by omega) (by omega)
  simp[t10,w1,w2,hr,Qc,w6,hJ]
def VH:List (List UInt8):=[[97],[98],[99],[100],[101],[102],[103]]
def SR:List (List UInt8):=[[],[120],[120,121],[120,121,122],[120,122],[121],[121,121]]
def t7(l:List Int)(i:Nat):Int:=if l.length=0 then 0 else l.getD (i % l.length) 0
def VP(name:List UInt8)(n:Int):Xg :=
 if hJ n 0 3=0∨hJ n 0 3=1 then⟨name,1,hJ (IntKind.i64.wrap (n.tdiv 4)) 0 9,hJ (IntKind.i64.wrap (n.tdiv 4)) 0 9+hJ (IntKind.i64.wrap (n.tdiv 40)) 0 9,[]⟩
 else⟨name,if hJ n 0 3=2 then 2 else 3,0,0,SR.getD (hJ (IntKind.i64.wrap (n.tdiv 4)) 0 6).toNat []⟩
end Go.Dm.Tc
/-
What functions of the statements' own packages compute: predicates El of numbers.
-/
namespace Go.Dm.Tc
def and1(n:Int):Int:=IntKind.i64.wrap ((BitVec.ofInt 64 n &&& BitVec.ofInt 64 1).toNat:Int)
def odd1(n:Int):Bool:=decide (and1 n=1)
def Pn(has vals:List Int):List (List UInt8)→Nat→dZ→dZ
 | [],_,wJ=>wJ
 | nm::r,i,wJ=>if i<has.length∧odd1 (has.getD i 0)=true∧wJ.length<5 then Pn has vals r (i+1) (wJ++[VP nm (t7 vals i)])else Pn has vals r (i+1) wJ
def VO(has vals:List Int):dZ:=Pn has vals VH 0 []
end Go.Dm.Tc
/-
What functions of the statements' own packages compute: a broker copied;the reference's orders and searches.
-/
namespace Go.Dm.Tc
end Go.Dm.Tc
/-
What the reference's functions compute,part 1: orders,searches,an advertisement learned.
-/
namespace Go.Dm.Tc
end Go.Dm.Tc
/-
What the reference's functions compute,part 2: an advertisement learned.
-/
namespace Go.Dm.Tc
end Go.Dm.Tc
/-
What functions of the program compute,part 9: what may be a name,a constraint,a predicate.
-/
namespace Go.Dm.Tc
def OT(s:List UInt8):Bool:=s.all fun b=>decide (97≤b.toNat) && decide (b.toNat≤122)
def VI(s:List UInt8):Bool:=OT s && !decide (s=[]) && decide (s.length≤12)
def uV(c : Xg) : Bool :=
  VI c.name &&
    (if c.kind = 1 then decide (c.lo ≤ c.hi) && decide (c.text = [])
     else if c.kind = 3 then !decide (c.text.length = 12) && (decide (c.lo = 0) && decide (c.hi = 0) && decide (c.text.length ≤ 12))
     else if c.kind = 2 then decide (c.lo = 0) && decide (c.hi = 0) && decide (c.text.length ≤ 12)
     else false)
def uX:Option (List UInt8)→dZ→Bool
 | _,[]=>true
 | prev,c::r=>uV c && (match prev with|none=>true|some n=>Go.Op.bytesLess n c.name) && uX (some c.name) r
def tB(p:dZ):Bool:=uX none p && decide (p.length≤5)
def Re(p:dZ):Prop:=p.length≤1000000∧∀c∈p,c.name.length≤1000000
end Go.Dm.Tc
/-
What functions of the program compute,part 10: is a broker right?
-/
namespace Go.Dm.Tc
def vG(b:aK)(n:Int):Bool:=decide (n=-1) || b.bE.contains n
def cmpE(t1 s1 t2 s2:ID):Int:=orI (dF t1 t2) (dF s1 s2)
def ltE(x y:bL):Bool:=decide (cmpE x.tree x.sub y.tree y.sub<0)
theorem pG{α:Type}{key:α→ID}:∀{l:List α},eJ (l.map key)→kC (fun x y=>Cm (key x) (key y)) l=true
 | [],_=>rfl
 | [a],_=>rfl
 | a::b::r,h=>by
  unfold eJ at h
  rw[List.map_cons,List.pairwise_cons]at h
  simp only[kC,Bool.and_eq_true]
  refine⟨?_,pG (l:=b::r) h.2⟩
  have:=h.1 (key b) (by simp)
  simpa[Cm]using this
def lC(b:aK)(e:bL):Bool :=
 match b.bB.find? (fun a=>a.id=e.tree)with
 | none=>false
 | some a=>vG b e.lX && (!decide (e.lX=a.eQ) || decide (a.eQ=-1)) && !(e.up && decide (a.eQ=-1)) && tB e.pred
end Go.Dm.Tc
/-
What functions of the program compute,part 11: is a broker right? All of it.
-/
namespace Go.Dm.Tc
structure SizedN(b:aK):Prop where
 adv:∀x∈b.bB,Re x.pred
 ent:∀x∈b.entries,Re x.pred
 own:∀x∈b.lI,Re x.pred
def uW(b:aK)(a:cQ):Bool:=decide (a.id∈b.seen) && vG b a.eQ && tB a.pred
def fJ(t:iJ)(b:aK):List DV:=[.int .i64 b.me,eL t.bE 1 dQ b.bE,eL t.bB 4 aJ b.bB,eL t.seen 2 eID b.seen,eL t.entries 7 bR b.entries,eL t.lI 3 rJ b.lI]
def Cg(b:aK):Bool :=
 kC (fun x y=>decide (x<y)) b.bE && kC (fun x y=>Cm x y) b.seen && kC (fun x y:cQ=>Cm x.id y.id) b.bB && kC (fun x y:Xc=>Cm x.id y.id) b.lI && kC ltE b.entries
def Ou(b:aK):Bool :=
 Cg b && !(b.bB.any fun a=>!uW b a) && !(b.entries.any fun e=>!lC b e) && !(b.lI.any fun o=>!tB o.pred)
end Go.Dm.Tc
/-
What functions of the program compute,part 12: an advertisement forgotten.
-/
namespace Go.Dm.Tc
theorem l8(tg:Bool)(a b:Int)(p1 p2 p3 p4 p5:DV)(c d:Int):pcF D W5 [.agg [.int .i64 a,.int .i64 b,p1,p2,p3,p4,p5],.iptr tg [.int .i64 c,.int .i64 d] 0]=some (.bool (decide ((⟨a,b⟩:ID)=⟨c,d⟩))):=by
 unfold pcF
 rw[aP _ _ _ _ (by simp[W5])]
 by_cases h1:a=c<;>by_cases h2:b=d<;>simp[W5,h1,h2]
theorem JG(x:ID)(c d:Int):(decide (x.bG=c) && decide (x.seq=d))=decide (x=⟨c,d⟩):=by
 cases x with|mk a b=>by_cases h1:a=c<;>by_cases h2:b=d<;>simp[h1,h2]
def wO{α:Type}(key:α→ID)(x:ID)(l:List α):List α:=l.filter fun a=>!decide (key a=x)
theorem Xm{α:Type}(key:α→ID){l:List α}(hr:eJ (l.map key)){x:ID}{i:Nat}{a:α}(hi:l[i]?=some a)(ha:key a=x):l.take i++l.drop (i+1)=wO key x l:=by
 have aY:i<l.length:=by
  by_cases h:i<l.length
  ·exact h
  ·rw[List.getElem?_eq_none (by omega)]at hi;cases hi
 have LR:l[i]=a:=by rw[List.getElem?_eq_getElem aY]at hi;exact Option.some.inj hi
 have cK:∀j (hj:j<l.length),j≠i→key l[j]≠x:=by
  intro j hj hji e
  rcases Nat.lt_or_gt_of_ne hji with h|h
  ·have:=List.pairwise_iff_getElem.1 hr j i (by simpa using hj) (by simpa using aY) h
   simp only[List.getElem_map,LR,ha,e]at this
   rw[gV]at this;omega
  ·have:=List.pairwise_iff_getElem.1 hr i j (by simpa using aY) (by simpa using hj) h
   simp only[List.getElem_map,LR,ha,e]at this
   rw[gV]at this;omega
 have h1:(l.take i).filter (fun a=>!decide (key a=x))=l.take i:=by
  rw[List.filter_eq_self]
  intro y hy
  obtain⟨j,hj,rfl⟩:=List.mem_iff_getElem.1 hy
  rw[List.length_take]at hj
  have:=cK j (by omega) (by omega)
  simpa using this
 have h2:(l.drop (i+1)).filter (fun a=>!decide (key a=x))=l.drop (i+1):=by
  rw[List.filter_eq_self]
  intro y hy
  obtain⟨j,hj,rfl⟩:=List.mem_iff_getElem.1 hy
  rw[List.length_drop]at hj
  have:=cK (i+1+j) (by omega) (by omega)
  simpa using this
 have h3:(l.drop i).filter (fun a=>!decide (key a=x))=l.drop (i+1):=by
  rw[List.drop_eq_getElem_cons aY,List.filter_cons,LR,ha,h2];simp
 calc l.take i++l.drop (i+1)=(l.take i++l.drop i).filter (fun a=>!decide (key a=x)):=by rw[List.filter_append,h1,h3]
  _=_:=by rw[List.take_append_drop];rfl
def fI(b:aK)(x:ID)(lX:Int):aK×Bool :=
 match b.bB.find? (fun a=>a.id=x)with
 | none=>(b,false)
 | some a=>if a.eQ=lX then({b with bB:=wO (fun a=>a.id) x b.bB,entries:=wO (fun e=>e.tree) x b.entries},true)else(b,false)
set_option maxRecDepth 8000 in
theorem s213(t:iJ)(b:aK)(c d q:Int)(hs:U8 b)(ra:eJ (b.bB.map (·.id))) :
  pcF D X3 [aM t b,.agg [.int .i64 c,.int .i64 d],.int .i64 q]=some (.tup [aM .none (fI b ⟨c,d⟩ q).1,.bool (fI b ⟨c,d⟩ q).2]):=by
 obtain⟨me,bE,adv,seen,ent,own⟩:=b
 obtain⟨R,hR⟩:∃ R,R=DV.tup [aM .none (fI ⟨me,bE,adv,seen,ent,own⟩ ⟨c,d⟩ q).1,.bool (fI ⟨me,bE,adv,seen,ent,own⟩ ⟨c,d⟩ q).2]:=⟨_,rfl⟩
 rw[←hR]
 unfold pcF
 rw[aP _ _ _ _ (by simp[X3])]
 simp[X3,aM]
 generalize hA:fc D _ _ _=A
 obtain⟨v1,v2,v3,v4,v5,K,rfl,o1,o2,o3,o4,o5,x⟩:=o7 hA hs (by simp) (by simp)
 simp at o1 o2 o3 o4 o5 x
 clear hA
 have a0:=x.get 0 (by decide)
 have a1:=x.get 1 (by decide)
 have a2:=x.get 2 (by decide)
 have q0:=x.lim
 have w0:=x.wf
 have n0:=x.le
 simp at a0 a1 a2 q0
 have l0:0<K.n:=by omega
 have l2:2<K.n:=by omega
 have r1:∀o,resolve true (K.set 0 o) 199 v1=some (eL true 1 dQ bE):=fun o=>(o1.aV w0 (by decide) l0).resolve true (fun y _=>(fO y).1) (by decide)
 have r2:∀o,resolve true (K.set 0 o) 199 v2=some (eL true 4 aJ adv):=fun o=>(o2.aV w0 (by decide) l0).resolve true (fun y _=>(fX y).1) (by decide)
 have r3:∀o,resolve true (K.set 0 o) 199 v3=some (eL true 2 eID seen):=fun o=>(o3.aV w0 (by decide) l0).resolve true (fun y _=>(lG y).1) (by decide)
 have r4:∀o,resolve true (K.set 0 o) 199 v4=some (eL true 7 bR ent):=fun o=>(o4.aV w0 (by decide) l0).resolve true (fun y _=>(fW y).1) (by decide)
 have r5:∀o,resolve true (K.set 0 o) 199 v5=some (eL true 3 rJ own):=fun o=>(o5.aV w0 (by decide) l0).resolve true (fun y _=>(kK y).1) (by decide)
 have r1':∀o o',resolve false ((K.set 0 o).set 2 o') 198 v1=some (eL false 1 dQ bE):=fun o o'=>((o1.aV w0 (by decide) l0).aV w0.set (by decide) l2).resolve false (fun y _=>(fO y).1) (by decide)
 have r2':∀o o',resolve false ((K.set 0 o).set 2 o') 198 v2=some (eL false 4 aJ adv):=fun o o'=>((o2.aV w0 (by decide) l0).aV w0.set (by decide) l2).resolve false (fun y _=>(fX y).1) (by decide)
 have r3':∀o o',resolve false ((K.set 0 o).set 2 o') 198 v3=some (eL false 2 eID seen):=fun o o'=>((o3.aV w0 (by decide) l0).aV w0.set (by decide) l2).resolve false (fun y _=>(lG y).1) (by decide)
 have r4':∀o o',resolve false ((K.set 0 o).set 2 o') 198 v4=some (eL false 7 bR ent):=fun o o'=>((o4.aV w0 (by decide) l0).aV w0.set (by decide) l2).resolve false (fun y _=>(fW y).1) (by decide)
 have r5':∀o o',resolve false ((K.set 0 o).set 2 o') 198 v5=some (eL false 3 rJ own):=fun o o'=>((o5.aV w0 (by decide) l0).aV w0.set (by decide) l2).resolve false (fun y _=>(kK y).1) (by decide)
 have BZ:adv.length≤1000000:=by have:=hs.adv;simp only at this;omega
 have nR:ent.length≤1000000:=by have:=hs.ent;simp only at this;omega
 simp only at ra
 have hf:=Vg (fun a:cQ=>a.id) ra ⟨c,d⟩
 cases hq:adv.find? (fun a=>a.id=⟨c,d⟩)with
 | none =>
  rw[hq]at hf
  simp only at hf
  simp[a0,a1,a2,q0,w0,l0,l2,e86,s86,r1,r2,r3,r4,r5,r1',r2',r3',r4',r5',ra,BZ,hf,aT]
  simp[hR,fI,hq,aM,iJ.none]
 | some a =>
  rw[hq]at hf
  simp only at hf
  obtain⟨hf1,hf2⟩:=hf
  have hax:a.id=⟨c,d⟩:=by simpa using List.find?_some hq
  obtain⟨i,hi⟩:∃ i,dS (fun b:cQ=>dF b.id ⟨c,d⟩) adv=i:=⟨_,rfl⟩
  have hilt:i<adv.length:=by
   by_cases h:i<adv.length
   ·exact h
   ·rw[hi,List.getElem?_eq_none (by omega)]at hf2;cases hf2
  rw[hi]at hf2
  obtain⟨id,sp,cap,hv2,PO,Fb,LT,yA,Pv⟩:=o2.toR.index (i:=i) (x:=aJ a) (by simp[hf2]) .i64
  have hid0:¬id=0:=by omega
  have hid2:¬id=2:=by omega
  simp only[aJ]at Pv
  by_cases Mg:a.eQ=q
  ·have hw:IntKind.i64.wrap ((i:Int)+1)=(i:Int)+1:=bK (by omega) (by omega)
   have hwo:=Xm (fun a:cQ=>a.id) ra hf2 hax
   simp[a0,a1,a2,q0,w0,l0,l2,e86,s86,r1,r2,r3,r4,r5,ra,BZ,hf1,hi,yA,PO,hid0,Pv,eq_true Mg,hw]
   generalize hH:K.set 0 _=H
   have wH:WF H:=by rw[←hH];exact w0.set
   have nH:H.n=K.n:=by rw[←hH];rfl
   have lH:H.lim=0:=by rw[←hH];exact q0
   have g0:H.get 0=some (.arr 37 6 [.agg [.int .i64 me,v1,v2,v3,v4,v5]] (some 1)):=by rw[←hH,cM w0 l0,if_pos rfl]
   have g1:H.get 1=some (.arr 45 2 [.agg [.int .i64 c,.int .i64 d]] (some 1)):=by rw[←hH,cM w0 l0,if_neg (by decide)];exact a1
   have g2:H.get 2=some (.arr 37 6 [.agg [.int .i64 0,.nsl,.nsl,.nsl,.nsl,.nsl]] (some 1)):=by rw[←hH,cM w0 l0,if_neg (by decide)];exact a2
   have p1:Own 3 H v1 3 1 (bE.map dQ):=by rw[←hH];exact o1.aV w0 (by decide) l0
   have p2:Own 3 H v2 68 4 (adv.map aJ):=by rw[←hH];exact o2.aV w0 (by decide) l0
   have p3:Own 3 H v3 45 2 (seen.map eID):=by rw[←hH];exact o3.aV w0 (by decide) l0
   have p4:Own 3 H v4 70 7 (ent.map bR):=by rw[←hH];exact o4.aV w0 (by decide) l0
   have p5:Own 3 H v5 134 3 (own.map rJ):=by rw[←hH];exact o5.aV w0 (by decide) l0
   clear hH r1 r2 r3 r4 r5 r1' r2' r3' r4' r5' yA Pv PO hid0 hid2 hv2 Fb LT
   obtain⟨v2',K2,hD,m2,x2,k2⟩:=s263 3 H v2 adv i p2 hilt BZ wH (by omega)
   rw[hwo]at m2
   have b0:=x2.get 0 (by decide)
   have b1:=x2.get 1 (by decide)
   have b2:=x2.get 2 (by decide)
   have q2:=x2.lim
   have w2:=x2.wf
   have n2:=x2.le
   rw[g0]at b0
   rw[g1]at b1
   rw[g2]at b2
   rw[lH]at q2
   have PT:0<K2.n:=by omega
   simp[hD,b0,b1,b2,q2,w2,PT,m2.aQ,m2.aF,turn]
   generalize hH':K2.set 0 _=H'
   have wH':WF H':=by rw[←hH'];exact w2.set
   have nH':H'.n=K2.n:=by rw[←hH'];rfl
   have lH':H'.lim=0:=by rw[←hH'];exact q2
   have g0':H'.get 0=some (.arr 37 6 [.agg [.int .i64 me,v1,v2',v3,v4,v5]] (some 1)):=by rw[←hH',cM w2 PT,if_pos rfl]
   have g1':H'.get 1=some (.arr 45 2 [.agg [.int .i64 c,.int .i64 d]] (some 1)):=by rw[←hH',cM w2 PT,if_neg (by decide)];exact b1
   have g2':H'.get 2=some (.arr 37 6 [.agg [.int .i64 0,.nsl,.nsl,.nsl,.nsl,.nsl]] (some 1)):=by rw[←hH',cM w2 PT,if_neg (by decide)];exact b2
   replace p1:Own 3 H' v1 3 1 (bE.map dQ):=by rw[←hH'];exact(p1.keep k2 x2.lim (by decide)).aV w2 (by decide) PT
   replace m2:OwnR 3 H' v2' 68 4 ((wO (fun a=>a.id) ⟨c,d⟩ adv).map aJ):=by rw[←hH'];exact m2.aV w2 (by decide) PT
   replace p3:Own 3 H' v3 45 2 (seen.map eID):=by rw[←hH'];exact(p3.keep k2 x2.lim (by decide)).aV w2 (by decide) PT
   replace p4:Own 3 H' v4 70 7 (ent.map bR):=by rw[←hH'];exact(p4.keep k2 x2.lim (by decide)).aV w2 (by decide) PT
   replace p5:Own 3 H' v5 134 3 (own.map rJ):=by rw[←hH'];exact(p5.keep k2 x2.lim (by decide)).aV w2 (by decide) PT
   clear hH' hD
   obtain⟨v4',K3,hD,m4,x3,k3⟩:=s264 3 H' v4 ent 265 [.ptr 1 2 0 0] [.iptr true [.int .i64 c,.int .i64 d] 0] (fun e=>decide (e.tree=⟨c,d⟩)) p4 nR wH' (by omega)
    (by simp[g1'])
    (fun y _ h'=>by simp[bR,e265,l8,JG])
    (fun y _ h' hx=>by
     have:=(hx.get 1 (by decide)).trans g1'
     simp[bR,e265,l8,this,JG])
   have c0:=x3.get 0 (by decide)
   have c1:=x3.get 1 (by decide)
   have c2:=x3.get 2 (by decide)
   have q3:=x3.lim
   have w3:=x3.wf
   have n3:=x3.le
   rw[g0']at c0
   rw[g1']at c1
   rw[g2']at c2
   rw[lH']at q3
   have h30:0<K3.n:=by omega
   have h32:2<K3.n:=by omega
   replace p1:=p1.keep k3 x3.lim (by decide)
   replace m2:=m2.keep k3 x3.lim (by decide)
   replace p3:=p3.keep k3 x3.lim (by decide)
   replace p5:=p5.keep k3 x3.lim (by decide)
   have r1:∀o o',resolve false ((K3.set 0 o).set 2 o') 198 v1=some (eL false 1 dQ bE):=fun o o'=>((p1.aV w3 (by decide) h30).aV w3.set (by decide) h32).resolve false (fun y _=>(fO y).1) (by decide)
   have r2:=fun o o'=>((m2.aV (o:=o) w3 (by decide) h30).aV (o:=o') w3.set (by decide) h32).resolve (n:=198) false (fun y _=>(fX y).1) (by decide)
   have r3:∀o o',resolve false ((K3.set 0 o).set 2 o') 198 v3=some (eL false 2 eID seen):=fun o o'=>((p3.aV w3 (by decide) h30).aV w3.set (by decide) h32).resolve false (fun y _=>(lG y).1) (by decide)
   have r4:=fun o o'=>((m4.aV (o:=o) w3 (by decide) h30).aV (o:=o') w3.set (by decide) h32).resolve (n:=198) false (fun y _=>(fW y).1) (by decide)
   have r5:∀o o',resolve false ((K3.set 0 o).set 2 o') 198 v5=some (eL false 3 rJ own):=fun o o'=>((p5.aV w3 (by decide) h30).aV w3.set (by decide) h32).resolve false (fun y _=>(kK y).1) (by decide)
   simp[g0',lH',hD,c0,c2,q3,w3,h30,h32,m4.aQ,m4.aF,turn,r1,r2,r3,r4,r5,aT]
   simp[hR,fI,hq,Mg,aM,iJ.none,wO]
  ·simp[a0,a1,a2,q0,w0,l0,l2,e86,s86,r1,r2,r3,r4,r5,r1',r2',r3',r4',r5',ra,BZ,hf1,hi,yA,PO,hid0,Pv,Mg,aT]
   simp[hR,fI,hq,Mg,aM,iJ.none]
end Go.Dm.Tc
/-
What the reference's functions compute,part 3: an advertisement forgotten.
-/
namespace Go.Dm.Tc
end Go.Dm.Tc
/-
Calls that let go of rows,brought into form;closed runs.
-/
namespace Go.Dm.Tc
def S8:Option (DV×aA)→(aA→Option (List DV×aA))→Option (List DV×aA)
 | some (v,h),k=>match k h with|some (r,h')=>some (v::r,h')|none=>none
 | none,_=>none
def SA(v:DV):Option (List DV×aA)→Option (List DV×aA)
 | some (r,h)=>some (v::r,h)
 | none=>none
def aggH:Option (List DV×aA)→Option (DV×aA)
 | some (r,h)=>some (.agg r,h)
 | none=>none
theorem zF(v:DV)(r:List DV)(h:aA):SA v (some (r,h))=some (v::r,h):=_root_.id rfl
theorem Dd(r:List DV)(h:aA):aggH (some (r,h))=some (.agg r,h):=_root_.id rfl
theorem zG(v:DV)(h:aA)(k:aA→Option (List DV×aA)):S8 (some (v,h)) k=SA v (k h):=by
 simp only[S8];cases k h<;>rfl
theorem He(f:aA→DV→Option (DV×aA))(h:aA):oC f h []=some ([],h):=_root_.id rfl
theorem Cl(f:aA→DV→Option (DV×aA))(h:aA)(v:DV)(r:List DV):oC f h (v::r)=S8 (f h v) (fun h1=>oC f h1 r):=by
 simp only[oC,S8]
 cases f h v with
 | none=>rfl
 | some p=>rfl
theorem tT(h:aA)(cs:List DV):fB h (.agg cs)=aggH (oC gS h cs):=by
 simp only[fB];cases oC gS h cs<;>rfl
theorem xD(h:aA)(k:IntKind)(n:Int):fB h (.int k n)=some (.int k n,h):=_root_.id rfl
theorem I6{α:Type}(h:aA)(t:Bool)(sz:Nat)(e:α→DV)(xs:List α):fB h (eL t sz e xs)=some (eL t sz e xs,h):=by cases xs<;>rfl
theorem Vp(h:aA)(p:dZ):fB h (eX p)=some (eX p,h):=I6 ..
theorem S5(h:aA)(s:List UInt8):fB h (.str s)=some (.str s,h):=_root_.id rfl
theorem H9(h:aA)(k:IntKind)(n:Int):gS h (.int k n)=some (.int k n,h):=_root_.id rfl
theorem S4(h:aA)(b:Bool):gS h (.bool b)=some (.bool b,h):=_root_.id rfl
theorem JM(h:aA):gS h .nsl=some (.nsl,h):=_root_.id rfl
theorem S3{α:Type}(h:aA)(t:Bool)(sz:Nat)(e:α→DV)(xs:List α):gS h (eL t sz e xs)=some (eL t sz e xs,h):=by cases xs<;>rfl
theorem S1(h:aA)(p:dZ):gS h (eX p)=some (eX p,h):=S3 ..
theorem JN(h:aA)(t:Bool)(sz:Nat)(xs:List DV):gS h (.isl t sz xs)=some (.isl t sz xs,h):=_root_.id rfl
attribute [simp] zF Dd zG He Cl tT xD I6 Vp S5 H9 S4 JM S3 S1 JN Iq
theorem nn1(n:Nat):(n=n+1)=False:=eq_false (by omega)
theorem mm1(n:Nat):(n+1=n)=False:=eq_false (by omega)
theorem nn2(n:Nat):(n=n+1+1)=False:=eq_false (by omega)
theorem mm2(n:Nat):(n+1+1=n)=False:=eq_false (by omega)
theorem nn3(n:Nat):(n=n+1+1+1)=False:=eq_false (by omega)
theorem mm3(n:Nat):(n+1+1+1=n)=False:=eq_false (by omega)
theorem nn4(n:Nat):(n=n+1+1+1+1)=False:=eq_false (by omega)
theorem mm4(n:Nat):(n+1+1+1+1=n)=False:=eq_false (by omega)
theorem nn5(n:Nat):(n=n+1+1+1+1+1)=False:=eq_false (by omega)
theorem mm5(n:Nat):(n+1+1+1+1+1=n)=False:=eq_false (by omega)
theorem nn6(n:Nat):(n=n+1+1+1+1+1+1)=False:=eq_false (by omega)
theorem mm6(n:Nat):(n+1+1+1+1+1+1=n)=False:=eq_false (by omega)
theorem nn7(n:Nat):(n=n+1+1+1+1+1+1+1)=False:=eq_false (by omega)
theorem mm7(n:Nat):(n+1+1+1+1+1+1+1=n)=False:=eq_false (by omega)
theorem nn8(n:Nat):(n=n+1+1+1+1+1+1+1+1)=False:=eq_false (by omega)
theorem mm8(n:Nat):(n+1+1+1+1+1+1+1+1=n)=False:=eq_false (by omega)
theorem nn9(n:Nat):(n=n+1+1+1+1+1+1+1+1+1)=False:=eq_false (by omega)
theorem mm9(n:Nat):(n+1+1+1+1+1+1+1+1+1=n)=False:=eq_false (by omega)
theorem nn10(n:Nat):(n=n+1+1+1+1+1+1+1+1+1+1)=False:=eq_false (by omega)
theorem mm10(n:Nat):(n+1+1+1+1+1+1+1+1+1+1=n)=False:=eq_false (by omega)
theorem nn11(n:Nat):(n=n+1+1+1+1+1+1+1+1+1+1+1)=False:=eq_false (by omega)
theorem mm11(n:Nat):(n+1+1+1+1+1+1+1+1+1+1+1=n)=False:=eq_false (by omega)
theorem nn12(n:Nat):(n=n+1+1+1+1+1+1+1+1+1+1+1+1)=False:=eq_false (by omega)
theorem mm12(n:Nat):(n+1+1+1+1+1+1+1+1+1+1+1+1=n)=False:=eq_false (by omega)
attribute [simp] nn1 mm1 nn2 mm2 nn3 mm3 nn4 mm4 nn5 mm5 nn6 mm6 nn7 mm7 nn8 mm8 nn9 mm9 nn10 mm10 nn11 mm11 nn12 mm12
theorem UV{k n:Nat}{df:aL}{args ds:List DV}{d:DV}(he:∀args h,fc D k args h=sQ D df h (args.mapM (resolve true h bO)))(hd:args.mapM (resolve true lM bO)=some ds)(hr:Ir D n k args lM=some (d,lM)):pcF D df ds=some d:=by
 have h1:fc D k args lM=some (d,lM):=Be.2 ⟨n,hr⟩
 rw[he,hd,qC]at h1
 cases h2:pcF D df ds with
 | none=>rw[h2]at h1;cases h1
 | some x=>rw[h2,uA]at h1;injection h1 with h1;injection h1 with h1;rw[h1]
end Go.Dm.Tc
/-
Plain laws,part 1: predicates El of numbers are right;rows that rise stay so.
-/
namespace Go.Dm.Tc
structure kI(p:dZ):Prop where
 right:tB p=true
 names:Re p
 len:p.length≤5
theorem pQ{α:Type}(key:α→ID)(a:α){l:List α}(h:eJ (l.map key))(hn:∀b∈l,key b≠key a):eJ ((uG key a l).map key):=by
 obtain⟨r1,r2⟩:=Gk key h (key a)
 have hp:l.Pairwise fun x y=>dF (key x) (key y)<0:=by unfold eJ at h;exact List.pairwise_map.1 h
 unfold eJ uG
 rw[List.pairwise_map,List.pairwise_append,List.pairwise_cons]
 generalize hk:dS (fun b=>dF (key b) (key a)) l=k at *
 have Hk:∀b∈l.take k,dF (key b) (key a)<0:=by
  intro b hb
  obtain⟨i,hi,rfl⟩:=List.mem_iff_getElem.1 hb
  rw[List.getElem_take]
  rw[List.length_take]at hi
  exact r1 i (by omega) (by omega)
 have vO:∀b∈l.drop k,dF (key a) (key b)<0:=by
  intro b hb
  obtain⟨i,hi,rfl⟩:=List.mem_iff_getElem.1 hb
  rw[List.length_drop]at hi
  rw[List.getElem_drop]
  have:=r2 (k+i) (by omega) (by omega)
  rcases CZ (key l[k+i]) (key a)with h1|h1|h1
  ·exact absurd h1 this
  ·exact absurd h1 (hn _ (List.getElem_mem _))
  ·exact h1
 refine⟨hp.sublist (List.take_sublist ..),⟨fun b hb=>vO b hb,hp.sublist (List.drop_sublist ..)⟩,?_⟩
 intro x hx y hy
 rcases List.mem_cons.1 hy with rfl|hy
 ·exact Hk x hx
 ·exact Ef (Hk x hx) (vO y hy)
theorem qS{α:Type}(key:α→ID)(a:α)(l:List α)(b:α):b∈uG key a l↔b=a∨b∈l:=by
 unfold uG
 rw[List.mem_append,List.mem_cons]
 constructor
 ·rintro(h|h|h)
  ·exact .inr (List.mem_of_mem_take h)
  ·exact .inl h
  ·exact .inr (List.mem_of_mem_drop h)
 ·rintro(h|h)
  ·exact .inr (.inl h)
  ·rw[←List.take_append_drop (dS (fun b=>dF (key b) (key a)) l) l,List.mem_append]at h
   exact h.elim .inl fun h=>.inr (.inr h)
theorem Fa{α:Type}(key:α→ID)(a:α)(l:List α):(uG key a l).length=l.length+1:=by
 unfold uG
 rw[List.length_append,List.length_cons,List.length_take,List.length_drop]
 have:=wZ (fun b=>dF (key b) (key a)) l
 omega
end Go.Dm.Tc
/-
Plain laws,part 2: a broker that was told of advertisements alone;sets of IDs as maps.
-/
namespace Go.Dm.Tc
structure Kz(m0:Int)(nr:List Int)(b:aK)(n:Nat):Prop where
 me:b.me=m0
 bE:b.bE=nr
 ent:b.entries=[]
 own:b.lI=[]
 ra:eJ (b.bB.map (·.id))
 rs:eJ b.seen
 la:b.bB.length≤n
 ls:b.seen.length≤n
 sub:∀a∈b.bB,a.id∈b.seen
 par:∀a∈b.bB,a.eQ=-1∨a.eQ∈nr
 prd:∀a∈b.bB,kI a.pred
section
variable {me:Int} {bE:List Int} {b:aK} {n:Nat}
theorem Kz.start(me:Int)(bE:List Int):Kz me bE ⟨me,bE,[],[],[],[]⟩ 0:=⟨rfl,rfl,rfl,rfl,List.Pairwise.nil,List.Pairwise.nil,Nat.le_refl _,Nat.le_refl _,fun a h=>(by cases h),fun a h=>(by cases h),fun a h=>(by cases h)⟩
theorem Kz.mono{m:Nat}(h:Kz me bE b n)(hm:n≤m):Kz me bE b m:={h with la:=Nat.le_trans h.la hm,ls:=Nat.le_trans h.ls hm}
theorem Kz.learn(h:Kz me bE b n)(a:cQ)(hp:a.eQ=-1∨a.eQ∈bE)(hr:kI a.pred):Kz me bE (dH b a).1 (n+1):=by
 unfold dH
 split
 ·exact h.mono (Nat.le_succ n)
 ·rename_i hm
  refine⟨h.me,h.bE,h.ent,h.own,?_,?_,?_,?_,?_,?_,?_⟩
  ·exact pQ (fun a:cQ=>a.id) a h.ra (fun b hb e=>hm (by rw[←e];exact h.sub b hb))
  ·have:=pQ (fun x:ID=>x) a.id (l:=b.seen) (by simpa using h.rs) (fun b hb e=>hm (by rw[←e];exact hb))
   simpa using this
  ·simp only[Fa];exact Nat.succ_le_succ h.la
  ·simp only[Fa];exact Nat.succ_le_succ h.ls
  ·intro x hx
   rw[qS]at hx ⊢
   rcases hx with rfl|hx
   ·exact .inl rfl
   ·exact .inr (h.sub x hx)
  ·intro x hx
   rw[qS]at hx
   rcases hx with rfl|hx
   ·exact hp
   ·exact h.par x hx
  ·intro x hx
   rw[qS]at hx
   rcases hx with rfl|hx
   ·exact hr
   ·exact h.prd x hx
theorem Kz.right(h:Kz me bE b n)(hn:kC (fun x y=>decide (x<y)) bE=true):Ou b=true:=by
 unfold Ou Cg
 rw[h.bE,h.ent,h.own,pG (key:=fun a:cQ=>a.id) h.ra,show kC (fun x y=>Cm x y) b.seen=true from pG (key:=fun a:ID=>a) (by simpa using h.rs),hn]
 have:(b.bB.any fun a=>!uW b a)=false:=by
  rw[List.any_eq_false]
  intro a ha
  have h1:=h.sub a ha
  have h2:=h.par a ha
  have h3:=(h.prd a ha).right
  have h4:vG b a.eQ=true:=by
   unfold vG
   rw[h.bE]
   rcases h2 with e|e
   ·simp[e]
   ·simp[e]
  simp[uW,h1,h3,h4]
 rw[this]
 rfl
end
def vZ(ks:List ID):List (DV×DV):=ks.map fun x=>(.agg [.int .i64 x.bG,.int .i64 x.seq],.bool true)
def Iy(x:ID)(ks:List ID):List ID:=if x∈ks then ks else ks++[x]
theorem tV(c d:Int)(y:ID):eY (.agg [1,1]) (.agg [.int .i64 c,.int .i64 d]) (.agg [.int .i64 y.bG,.int .i64 y.seq])=some (decide ((⟨c,d⟩:ID)=y)):=by
 cases y with|mk a b=>by_cases h1:c=a<;>by_cases h2:d=b<;>simp[h1,h2]
theorem xC(c d:Int):∀{ks:List ID},(⟨c,d⟩:ID) ∉ ks→pS (.agg [1,1]) (.agg [.int .i64 c,.int .i64 d]) (vZ ks)=some 0
 | [],_=>rfl
 | y::r,h=>by
  have h1:(⟨c,d⟩:ID)≠y:=fun e=>h (by rw[e];exact List.mem_cons_self ..)
  have ih:=xC c d (ks:=r) fun hm=>h (List.mem_cons_of_mem _ hm)
  simp only[vZ,List.map_cons,pS]
  rw[tV,show pS _ _ (r.map _)=some 0 from ih,decide_eq_false h1]
theorem Cw(c d:Int):∀{ks:List ID} (i:Nat),(⟨c,d⟩:ID) ∉ ks→eV (.agg [1,1]) (.agg [.int .i64 c,.int .i64 d]) (vZ ks) i=some none
 | [],_,_=>rfl
 | y::r,i,h=>by
  have h1:(⟨c,d⟩:ID)≠y:=fun e=>h (by rw[e];exact List.mem_cons_self ..)
  have ih:=Cw c d (ks:=r) (i+1) fun hm=>h (List.mem_cons_of_mem _ hm)
  simp only[vZ,List.map_cons,eV]
  rw[tV,decide_eq_false h1]
  exact ih
theorem Cq(c d:Int):∀{ks:List ID},ks.Nodup→(⟨c,d⟩:ID)∈ks→pS (.agg [1,1]) (.agg [.int .i64 c,.int .i64 d]) (vZ ks)=some 1
 | [],_,h=>by cases h
 | y::r,hn,h=>by
  rw[List.nodup_cons]at hn
  simp only[vZ,List.map_cons,pS]
  by_cases h1:(⟨c,d⟩:ID)=y
  ·rw[tV,decide_eq_true h1,show pS _ _ (r.map _)=some 0 from xC c d (by rw[h1];exact hn.1)]
  ·rw[tV,decide_eq_false h1,show pS _ _ (r.map _)=some 1 from Cq c d hn.2 ((List.mem_cons.1 h).resolve_left h1)]
theorem Cv(c d:Int):∀{ks:List ID} (i:Nat),(⟨c,d⟩:ID)∈ks→∃ j,eV (.agg [1,1]) (.agg [.int .i64 c,.int .i64 d]) (vZ ks) i=some (some (i+j,.bool true))∧ks[j]?=some ⟨c,d⟩
 | [],_,h=>by cases h
 | y::r,i,h=>by
  simp only[vZ,List.map_cons,eV]
  by_cases h1:(⟨c,d⟩:ID)=y
  ·rw[tV,decide_eq_true h1]
   exact⟨0,rfl,by rw[h1];rfl⟩
  ·obtain⟨j,k1,k2⟩:=Cv c d (i+1) ((List.mem_cons.1 h).resolve_left h1)
   rw[tV,decide_eq_false h1]
   refine⟨j+1,?_,by simpa using k2⟩
   rw[show i+(j+1)=i+1+j by omega]
   exact k1
theorem D8{ks:List ID}(hn:ks.Nodup)(c d:Int):fY (.agg [1,1]) (.bool false) false (.agg [.int .i64 c,.int .i64 d]) (some (vZ ks))=some (.bool (decide ((⟨c,d⟩:ID)∈ks))):=by
 have he:(eY (.agg [1,1]) (.agg [.int .i64 c,.int .i64 d]) (.agg [.int .i64 c,.int .i64 d])).isSome=true:=by simp
 simp only[fY,he,if_true]
 by_cases h:(⟨c,d⟩:ID)∈ks
 ·obtain⟨j,k1,_⟩:=Cv c d 0 h
  simp only[lO,Cq c d hn h,k1,decide_eq_true h]
  rfl
 ·simp only[lO,xC c d h,Cw c d 0 h,decide_eq_false h]
  rfl
def JV:Option DO→Option (List (DV×DV))
 | some (.mp es)=>some es
 | _=>none
theorem iE(h:aA)(id:Nat):vW h (.map id)=JV (h.get id):=by
 simp only[vW,JV]
 cases h.get id with
 | none=>rfl
 | some o=>cases o<;>rfl
theorem kQ(es:List (DV×DV)):JV (some (.mp es))=some es:=_root_.id rfl
def Jj(h:aA)(q:EqT)(id:Nat)(k x:DV):Option DO→Option aA
 | some (.mp es)=>if h.lim≤id∧(eY q k k).isSome=true then
   match lO q k es with
   | some (some (i,_))=>some (h.set id (.mp (es.set i (k,x))))
   | some none=>some (h.set id (.mp (es++[(k,x)])))
   | none=>none
  else none
 | _=>none
theorem nJ(h:aA)(q:EqT)(id:Nat)(k x:DV):zN h q (.map id) k x=Jj h q id k x (h.get id):=by
 simp only[zN,Jj]
 cases h.get id with
 | none=>rfl
 | some o=>cases o<;>rfl
theorem Sq{α:Type}:∀{l:List α} {i:Nat} {a:α},l[i]?=some a→l.set i a=l
 | [],i,a,h=>by simp at h
 | x::r,0,a,h=>by simp at h;simp[h]
 | x::r,i+1,a,h=>by simp at h;simp[Sq h]
theorem MD{h:aA}{id:Nat}{ks:List ID}(hn:ks.Nodup)(hl:h.lim≤id)(c d:Int):Jj h (.agg [1,1]) id (.agg [.int .i64 c,.int .i64 d]) (.bool true) (some (.mp (vZ ks)))=some (h.set id (.mp (vZ (Iy ⟨c,d⟩ ks)))):=by
 have he:(eY (.agg [1,1]) (.agg [.int .i64 c,.int .i64 d]) (.agg [.int .i64 c,.int .i64 d])).isSome=true:=by simp
 simp only[Jj,he,hl,and_self,if_true]
 by_cases hm:(⟨c,d⟩:ID)∈ks
 ·obtain⟨j,k1,k2⟩:=Cv c d 0 hm
  simp only[lO,Cq c d hn hm,k1,Nat.zero_add,Iy,if_pos hm]
  have hs:(vZ ks).set j (DV.agg [.int .i64 c,.int .i64 d],DV.bool true)=vZ ks:=Sq (by simp only[vZ,List.getElem?_map,k2];rfl)
  simp only[Nat.le_refl,if_true]
  rw[hs]
 ·simp only[lO,xC c d hm,Cw c d 0 hm,Iy,if_neg hm]
  simp[vZ]
theorem IW(h:aA)(id:Nat):lenV h 2 (.map id)=(JV (h.get id)).map fun es=>.int .i64 es.length:=by
 simp only[lenV,JV]
 cases h.get id with
 | none=>rfl
 | some o=>cases o<;>rfl
end Go.Dm.Tc
/-
What functions of the program compute,part 13: is a constraint wider than another one?
-/
namespace Go.Dm.Tc
def T4(s p:List UInt8):Bool:=decide (p.length≤s.length) && (s.take p.length == p)
def WJ(c:Xg)(s:List UInt8):Bool:=if c.kind=2 then s == c.text else if c.kind=3 then T4 s c.text else false
def SG(c x:Xg):Bool :=
 if x.kind=1 then decide (c.kind=1) && decide (c.lo≤x.lo) && decide (x.hi≤c.hi)
 else if x.kind=3 then decide (c.kind=3) && T4 x.text c.text
 else if x.kind=2 then WJ c x.text
 else false
end Go.Dm.Tc
/-
What functions of the program compute,part 14: does a predicate cover another one?
-/
namespace Go.Dm.Tc
def KY(p:dZ):Prop:=p.Pairwise fun a b=>a.name≠b.name
def S7(a b:dZ):Bool:=a.all fun c=>match b.find? (fun x=>decide (x.name=c.name))with
 | some x=>SG c x
 | none=>false
end Go.Dm.Tc
/-
What functions of the program compute,part 15: an entry's place;an entry found;a tree's entries.
-/
namespace Go.Dm.Tc
def lB(tree sub:ID)(e:bL):Int:=if e.tree=tree∧e.sub=sub then 0 else if Cm e.tree tree=true∨(e.tree=tree∧Cm e.sub sub=true)then -1 else 1
theorem jV{a b:ID}:Cm a b=true↔a.bG<b.bG∨a.bG=b.bG∧a.seq<b.seq:=by
 unfold Cm;rw[decide_eq_true_iff,gV]
theorem ID.ext'{a b:ID}:a=b↔a.bG=b.bG∧a.seq=b.seq:=by cases a;cases b;simp
theorem Ev{tree sub:ID}{e:bL}:lB tree sub e<0↔Cm e.tree tree=true∨(e.tree=tree∧Cm e.sub sub=true):=by
 unfold lB
 split
 ·rename_i h
  rw[h.1,h.2,jV,jV]
  constructor
  ·intro q;omega
  ·rintro(q|⟨_,q⟩)<;>omega
 ·split
  ·rename_i h;exact⟨fun _=>h,fun _=>by decide⟩
  ·rename_i h;exact⟨fun q=>by omega,fun q=>absurd q h⟩
theorem zZ{tree sub:ID}{e:bL}:lB tree sub e=0↔e.tree=tree∧e.sub=sub:=by
 unfold lB
 split
 ·rename_i h;exact⟨fun _=>h,fun _=>rfl⟩
 ·rename_i h
  split<;>exact⟨fun q=>by omega,fun q=>absurd q h⟩
theorem OR(a b:bL):ltE a b=true↔lB b.tree b.sub a<0:=by
 rw[Ev,jV,jV]
 unfold ltE cmpE orI
 rw[decide_eq_true_iff]
 split
 ·rename_i h
  rw[Bl]at h
  rw[gV,h]
  constructor
  ·intro q;exact .inr ⟨rfl,q⟩
  ·rintro(q|⟨_,q⟩)
   ·omega
   ·exact q
 ·rename_i h
  rw[Bl]at h
  rw[gV]
  constructor
  ·intro q;exact .inl q
  ·rintro(q|⟨q,_⟩)
   ·exact q
   ·exact absurd q h
def jN(l:List bL):Prop:=l.Pairwise fun a b=>lB b.tree b.sub a<0
theorem Gh{t s:ID}{a b:bL}(h1:lB b.tree b.sub a<0)(h2:lB t s b≤0):lB t s a<0:=by
 rw[Ev,jV,jV]at *
 by_cases h0:lB t s b=0
 ·rw[zZ]at h0
  rw[h0.1,h0.2]at h1
  exact h1
 ·have h3:lB t s b<0:=by omega
  rw[Ev,jV,jV]at h3
  rw[ID.ext']at *
  omega
theorem v7{l:List bL}(h:jN l)(t s:ID):∀i j (hi:i<l.length) (hj:j<l.length),i≤j→lB t s l[j]<0→lB t s l[i]<0:=by
 intro i j hi hj LQ aY
 rcases Nat.lt_or_eq_of_le LQ with hl|rfl
 ·exact Gh (List.pairwise_iff_getElem.1 h i j hi hj hl) (by omega)
 ·exact aY
theorem Lw:∀{l:List bL},jN l→kC ltE l=true
 | [],_=>rfl
 | [a],_=>rfl
 | a::b::r,h=>by
  unfold jN at h
  rw[List.pairwise_cons]at h
  simp only[kC,Bool.and_eq_true]
  exact⟨(OR a b).2 (h.1 b (List.mem_cons_self ..)),Lw (l:=b::r) h.2⟩
def isE(tree sub:ID)(e:bL):Bool:=decide (e.tree=tree∧e.sub=sub)
end Go.Dm.Tc
/-
What functions of the program compute,part 16: an entry found;a tree's entries;is a predicate covered?
-/
namespace Go.Dm.Tc
def ofT(tree:ID)(l:List bL):List bL:=l.filter fun e=>decide (e.tree=tree)
def eH(l:List bL)(tree:ID)(p:dZ):Bool:=(ofT tree l).any fun e=>e.up && S7 e.pred p
end Go.Dm.Tc
/-
What functions of the program compute,part 17: is a broker tight?
-/
namespace Go.Dm.Tc
def gQ(b:aK)(x:ID):Int:=((b.bB.find? fun a=>a.id=x).getD T7).eQ
def EU(b:aK)(e:bL):Bool:=e.up || decide (gQ b e.tree=-1) || eH b.entries e.tree e.pred
def Xu(b:aK):Bool:=b.entries.all (EU b)
structure XU(b:aK):Prop where
 unl:∀e∈b.entries,KY e.pred
 len:∀e∈b.entries,e.pred.length≤1000000
end Go.Dm.Tc
/-
What the reference's functions compute,part 4: an entry's place;is a predicate covered?
-/
namespace Go.Dm.Tc
end Go.Dm.Tc
/-
What the reference's functions compute,part 5: does a predicate cover another one? is it covered?
-/
namespace Go.Dm.Tc
end Go.Dm.Tc
/-
Plain laws,part 3: names of right predicates are unlike;the two coverings are alike. The reference's Covered.
-/
namespace Go.Dm.Tc
theorem QW{a b:UInt8}:(decide (a<b))=decide (a.toNat<b.toNat):=by
 by_cases h:a<b
 ·rw[decide_eq_true h,decide_eq_true (UInt8.lt_iff_toNat_lt.1 h)]
 ·rw[decide_eq_false h,decide_eq_false (fun q=>h (UInt8.lt_iff_toNat_lt.2 q))]
theorem KN:∀a:List UInt8,Go.Op.bytesLess a a=false
 | []=>rfl
 | a::r=>by simp only[Go.Op.bytesLess,QW,KN r];simp
theorem Iv:∀{a b c:List UInt8},Go.Op.bytesLess a b=true→Go.Op.bytesLess b c=true→Go.Op.bytesLess a c=true
 | _,[],_,h,_=>by cases ‹List UInt8›<;>simp[Go.Op.bytesLess]at h
 | _,_::_,[],_,h=>by simp[Go.Op.bytesLess]at h
 | [],_::_,_::_,_,_=>rfl
 | a::x,b::y,c::z,h1,h2=>by
  simp only[Go.Op.bytesLess,QW,Bool.or_eq_true,Bool.and_eq_true,decide_eq_true_iff,beq_iff_eq]at *
  rcases h1 with h1|⟨rfl,h1⟩
  ·rcases h2 with h2|⟨rfl,h2⟩
   ·exact .inl (by omega)
   ·exact .inl h1
  ·rcases h2 with h2|⟨rfl,h2⟩
   ·exact .inl h2
   ·exact .inr ⟨rfl,Iv h1 h2⟩
theorem Af:∀{p:dZ} {prev:Option (List UInt8)},uX prev p=true→(∀n,prev=some n→∀c∈p,Go.Op.bytesLess n c.name=true)∧p.Pairwise fun a b=>Go.Op.bytesLess a.name b.name=true
 | [],_,_=>⟨fun _ _ _ h=>(by cases h),List.Pairwise.nil⟩
 | c::r,prev,h=>by
  simp only[uX,Bool.and_eq_true]at h
  obtain⟨⟨_,h2⟩,h3⟩:=h
  obtain⟨k1,k2⟩:=Af h3
  refine⟨fun n hn d hd=>?_,List.pairwise_cons.2 ⟨fun d hd=>k1 c.name rfl d hd,k2⟩⟩
  subst hn
  rcases List.mem_cons.1 hd with rfl|hd
  ·exact h2
  ·exact Iv h2 (k1 c.name rfl d hd)
theorem Dt:∀{p:dZ} {prev:Option (List UInt8)},uX prev p=true→∀c∈p,uV c=true
 | [],_,_,_,h=>by cases h
 | c::r,prev,h,d,hd=>by
  simp only[uX,Bool.and_eq_true]at h
  rcases List.mem_cons.1 hd with rfl|hd
  ·exact h.1.1
  ·exact Dt h.2 d hd
theorem kI.unlike{p:dZ}(h:kI p):KY p:=by
 have:=h.right
 unfold tB at this
 rw[Bool.and_eq_true]at this
 refine(Af this.1).2.imp fun {a b} hab e=>?_
 rw[e,KN]at hab
 cases hab
theorem kI.each{p:dZ}(h:kI p):∀c∈p,uV c=true:=by
 have:=h.right
 unfold tB at this
 rw[Bool.and_eq_true]at this
 exact Dt this.1
theorem kI.nil:kI []:=⟨rfl,⟨by decide,fun c h=>by cases h⟩,by decide⟩
end Go.Dm.Tc
/-
What functions of the program compute,part 18: an entry added.
-/
namespace Go.Dm.Tc
def Ps(e:bL)(l:List bL):List bL:=l.take (dS (lB e.tree e.sub) l)++e::l.drop (dS (lB e.tree e.sub) l)
def Pq(b:aK)(e:bL):Bool :=
 match b.bB.find? (fun a=>a.id=e.tree)with
 | none=>false
 | some a=>!(b.entries.any (isE e.tree e.sub)) && !(decide (e.lX=a.eQ) && !decide (a.eQ=-1))
def Xr(b:aK)(e:bL):Bool:=!decide (gQ b e.tree=-1) && !eH b.entries e.tree e.pred
def wI(b:aK)(e:bL):aK×Bool :=
 if Pq b e=true then({b with entries:=Ps {e with up:=Xr b e} b.entries},Xr b e)else(b,false)
end Go.Dm.Tc
/-
What the reference's functions compute,part 6: an entry added.
-/
namespace Go.Dm.Tc
end Go.Dm.Tc
/-
What the reference's functions compute,part 7: an entry added,all of it.
-/
namespace Go.Dm.Tc
end Go.Dm.Tc
/-
Two rows of one element type side by side: what is put behind one leaves the other one alone.
-/
namespace Go.Dm.Tc
def hI(v:DV)(k:Nat):Prop:=∀sz off len,v≠.sl k sz off len
theorem Bo{lo:Nat}{h:aA}{v:DV}{ety sz bytes:Nat}{xs ys:List DV}{A:Option (DV×aA)}(w:OwnR lo h v ety sz xs)(wf:WF h)(dY:lo≤h.n)(bJ:h.lim≤h.n)(hA:bF h ety sz bytes v ys=A)
  (hb:(xs.length+ys.length)*bytes≤140737488355328) (Cr:1≤bytes) :
  ∃ v' h',A=some (v',h')∧OwnR lo h' v' ety sz (xs++ys)∧Ext lo h h'∧(∀k,k<h.n→hI v k→h'.get k=h.get k)∧(∀k,k<h.n→hI v k→hI v' k):=by
 have hm:xs.length+ys.length≤140737488355328:=Nat.le_trans (Nat.le_mul_of_pos_right _ Cr) hb
 by_cases hy:ys=[]
 ·subst hy
  refine⟨v,h,?_,by simpa using w,.refl dY wf,fun _ _ _=>rfl,fun _ _ q=>q⟩
  rw[←hA]
  cases w with
  | nil hv hx=>subst hv;rfl
  | arr id sp cap hv hg _ _=>subst hv;rfl
 ·have Ke:ys.isEmpty=false:=by cases ys<;>simp_all
  have RG:0<ys.length:=List.length_pos_iff.2 hy
  cases w with
  | nil hv hx =>
   subst hv;subst hx
   simp only[List.length_nil,Nat.zero_add]at hb hm
   refine⟨.sl h.n sz 0 ys.length,h.push (.arr ety sz ys none),?_,.arr h.n [] none rfl (by simp[cH]) (by exact bJ) dY,(Ext.refl dY wf).push,fun k hk _=>by rw[cH,if_neg (by omega)],fun k hk _ dK off' len' e=>by injection e;omega⟩
   rw[←hA]
   simp only[bF,Ke]
   rw[if_neg (by simp),if_pos ⟨hb,by omega⟩]
  | arr id sp cap hv hg hl hi =>
   subst hv
   have aY:=aB hg
   have cK:∀k,hI (.sl id sz 0 xs.length) k→k≠id:=fun k q e=>by subst e;exact q _ _ _ rfl
   by_cases Qe:xs.length+ys.length≤(xs++sp).length
   ·refine⟨.sl id sz 0 (xs.length+ys.length),h.set id (.arr ety sz (cB (xs++sp) ys xs.length) cap),?_,.arr id (sp.drop ys.length) cap (by simp) ?_ (by exact hl) hi,(Ext.refl dY wf).set hi aY,fun k _ q=>by rw[cM wf aY,if_neg (cK k q)],fun k _ q dK off' len' e=>by injection e with e1;exact cK k q e1.symm⟩
    ·rw[←hA];exact mW hg Qe hl hb Cr hy
    ·rw[cM wf aY,if_pos rfl]
     simp only[cB,List.take_left',List.append_assoc]
     congr 3
     rw[List.drop_append]
     simp
   ·cases cap with
    | none =>
     refine⟨.sl h.n sz 0 (xs.length+ys.length),(h.set id .dead).push (.arr ety sz (xs++ys) none),?_,.arr h.n [] none (by simp) ?_ (by exact bJ) dY,((Ext.refl dY wf).set hi aY).push,fun k hk q=>by rw[cH,if_neg (by show ¬k=h.n;omega),cM wf aY,if_neg (cK k q)],fun k hk _ dK off' len' e=>by injection e;omega⟩
     ·rw[←hA]
      simp only[bF,Ke,hg]
      simp only[Bool.false_eq_true,if_false,true_and,Nat.zero_add,List.drop_zero]
      rw[if_pos ⟨by simp,hb,by omega⟩,if_neg Qe,if_pos hl]
      simp
     ·simpa using cT (h:=h.set id .dead)
    | some c =>
     refine⟨.sl h.n sz 0 (xs.length+ys.length),h.push (.arr ety sz (xs++ys) none),?_,.arr h.n [] none (by simp) ?_ (by exact bJ) dY,(Ext.refl dY wf).push,fun k hk _=>by rw[cH,if_neg (by omega)],fun k hk _ dK off' len' e=>by injection e;omega⟩
     ·rw[←hA]
      rw[jF hg (by simp) (by omega) hb Cr hy]
      simp
     ·simpa using cT (h:=h)
def zP(tree:ID):List bL→List bL→List bL→List bL×List bL
 | done,[],DX=>(done,DX)
 | done,e::r,DX=>if e.tree=tree∧e.up=false∧eH (done++e::r) tree e.pred=false then zP tree (done++[{e with up:=true}]) r (DX++[{e with up:=true}])else zP tree (done++[e]) r DX
def xS(b : aK)(tree sub : ID)(lX : Int) : aK × List bL × Bool :=
  match b.entries.find? (isE tree sub)with
  | none => (b, [], false)
  | some e => if e.lX = lX then
      (if e.up = true then({ b with entries := (zP tree [] (b.entries.filter fun x => !isE tree sub x) []).1 }, (zP tree [] (b.entries.filter fun x => !isE tree sub x) []).2, true)
       else({ b with entries := b.entries.filter fun x => !isE tree sub x }, [], false))
    else(b, [], false)
end Go.Dm.Tc
/-
What functions of the program compute,part 19: an entry taken out (the loop).
-/
namespace Go.Dm.Tc
end Go.Dm.Tc
/-
What functions of the program compute,part 20: an entry taken out.
-/
namespace Go.Dm.Tc
end Go.Dm.Tc
/-
What the reference's functions compute,part 8: an entry taken out (the loop).
-/
namespace Go.Dm.Tc
end Go.Dm.Tc
/-
What the reference's functions compute,part 9: an entry taken out.
-/
namespace Go.Dm.Tc
end Go.Dm.Tc
