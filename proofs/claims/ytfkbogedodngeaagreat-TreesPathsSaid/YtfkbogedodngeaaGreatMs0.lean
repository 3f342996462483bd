/- A part of the proof. -/
import Derived.Test.YtfkbogedodngeaaGreatTcE
import Derived.Test.YtfkbogedodngeaaGreatMm5
set_option linter.all false
namespace Go.Dm.Tc
def lL:Option Nat→Int
 | some i=>i
 | none=>-1
theorem YT(t:Bool)(xs:List bL)(g:Nat)(cap:List DV)(p:bL→Bool)(hg:∀x∈xs,∀h,fc D g ([bQ x]++cap) h=some (.bool (p x),h))(hl:xs.length≤1000000) :
  ∀(rest:List bL) (i:Nat) (f:dV) (h:aA),xs.drop i=rest→f 0=eL t 7 bQ xs→f 1=.func g cap→f 7=.int .i64 xs.length→f 8=.int .i64 i →
  iK (fin [.t 4] (run D 19 [.block 0,.seq Wd] (.loop Lt) f h))=some (.int .i64 (lL ((rest.findIdx? p).map (·+i)))):=by
 intro rest
 induction rest with
 | nil =>
  intro i f h hd h0 h1 h7 h8
  have hi:=iB hd
  have:¬(i<xs.length):=by omega
  rw[aG Lt.eq_1]
  simp[Wd,h7,h8,this,lL]
 | cons e rest ih =>
  intro i f h hd h0 h1 h7 h8
  obtain⟨hi,he,pE⟩:=jF hd
  have Kr:=hg e (by rw[←he];exact List.getElem_mem hi)
  simp only[bQ,List.cons_append,List.nil_append]at Kr
  rw[aG Lt.eq_1]
  cases hp:p e with
  | true=>simp[h0,h1,h7,h8,hi,he,bQ,Kr,hp,lL,List.findIdx?_cons]
  | false =>
   simp[h0,h1,h7,h8,hi,he,bQ,Kr,hp]
   rw[bC (by omega) (by omega)]
   refine(ih (i+1) _ h pE ?_ ?_ ?_ ?_).trans ?_<;>simp[h0,h1,h7,List.findIdx?_cons,hp]
   congr 2
   funext q
   simp
   omega
theorem XP(t:Bool)(xs:List bL)(g:Nat)(cap:List DV)(p:bL→Bool)(hg:∀x∈xs,∀h,fc D g ([bQ x]++cap) h=some (.bool (p x),h))(hl:xs.length≤1000000) :
  pcF D P2 [eL t 7 bQ xs,.func g cap]=some (.int .i64 (lL (xs.findIdx? p))):=by
 unfold pcF
 rw[aM _ _ _ _ (by simp[P2])]
 simp[P2]
 refine(YT t xs g cap p hg hl xs 0 _ _ rfl ?_ ?_ ?_ ?_).trans ?_<;>simp
theorem Sy{α:Type}(p:α→Bool)(xs:List α):decide (0≤lL (xs.findIdx? p))=xs.any p:=by
 cases h:xs.findIdx? p with
 | none =>
  rw[List.findIdx?_eq_none_iff]at h
  simp only[lL]
  have:xs.any p=false:=by rw[List.any_eq_false];exact fun x hx=>by simp[h x hx]
  rw[this];rfl
 | some i =>
  have:=List.findIdx?_eq_some_iff_getElem.1 h
  obtain⟨hi,hp,_⟩:=this
  have:xs.any p=true:=List.any_eq_true.2 ⟨_,List.getElem_mem hi,hp⟩
  rw[this]
  simp[lL]
theorem YW(t:Bool)(xs:List Int)(v:Int)(hl:xs.length≤1000000) :
  ∀(rest:List Int) (i:Nat) (f:dV) (h:aA),xs.drop i=rest→f 0=eL t 1 bF xs→f 1=.int .i64 v→f 7=.int .i64 xs.length→f 8=.int .i64 i →
  iK (fin [.t 4] (run D 19 [.block 0,.seq Wi] (.loop Lx) f h))=some (.int .i64 (lL ((rest.findIdx? (v == ·)).map (·+i)))):=by
 intro rest
 induction rest with
 | nil =>
  intro i f h hd h0 h1 h7 h8
  have hi:=iB hd
  have:¬(i<xs.length):=by omega
  rw[aG Lx.eq_1]
  simp[Wi,h7,h8,this,lL]
 | cons e rest ih =>
  intro i f h hd h0 h1 h7 h8
  obtain⟨hi,he,pE⟩:=jF hd
  rw[aG Lx.eq_1]
  by_cases hp:v=e
  ·simp[h0,h1,h7,h8,hi,he,bF,hp,lL,List.findIdx?_cons]
  ·simp[h0,h1,h7,h8,hi,he,bF,hp]
   rw[bC (by omega) (by omega)]
   refine(ih (i+1) _ h pE ?_ ?_ ?_ ?_).trans ?_<;>simp[h0,h1,h7,List.findIdx?_cons,hp,bF]
   congr 2
   funext q
   simp
   omega
theorem XT(t:Bool)(xs:List Int)(v:Int)(hl:xs.length≤1000000) :
  pcF D P7 [eL t 1 bF xs,.int .i64 v]=some (.int .i64 (lL (xs.findIdx? (v == ·)))):=by
 unfold pcF
 rw[aM _ _ _ _ (by simp[P7])]
 simp[P7]
 refine(YW t xs v hl xs 0 _ _ rfl ?_ ?_ ?_ ?_).trans ?_<;>simp
theorem s69(t:Bool)(xs:List Int)(v:Int)(hl:xs.length≤1000000) :
  pcF D t69 [eL t 1 bF xs,.int .i64 v]=some (.bool (xs.contains v)):=by
 unfold pcF
 rw[aM _ _ _ _ (by simp[t69])]
 simp[t69,ZG,XT t xs v hl]
 have:=Sy (v == ·) xs
 rw[←decide_eq_true_iff (p:=0≤_),this,List.any_eq_true]
 simp
end Go.Dm.Tc
/-
What functions of the library compute,part 2: comparisons by a function,rows that rise,searches by halves.
-/
namespace Go.Dm.Tc
def jX{α:Type}(p:α→α→Bool):List α→Bool
 | a::b::r=>p a b && jX p (b::r)
 | _=>true
end Go.Dm.Tc
/-
What functions of the library compute,part 3: the search by halves.
-/
namespace Go.Dm.Tc
def dQ{α:Type}(cm:α→Int)(xs:List α):Nat:=xs.findIdx fun x=>!decide (cm x<0)
def oN{α:Type}(cm:α→Int)(xs:List α):Bool:=match xs[dQ cm xs]? with|some x=>decide (cm x=0)|none=>false
theorem vJ{α:Type}(cm:α→Int)(xs:List α):dQ cm xs≤xs.length:=List.findIdx_le_length
theorem As{α:Type}{cm:α→Int}{xs:List α}{k:Nat}(hk:k≤xs.length)(h1:∀q (hq:q<k),cm (xs[q]'(by omega))<0)(h2:∀(hq:k<xs.length),¬cm xs[k]<0):dQ cm xs=k:=by
 unfold dQ
 rcases Nat.lt_or_eq_of_le hk with aZ|rfl
 ·rw[List.findIdx_eq aZ]
  refine⟨by simpa using h2 aZ,fun j hj=>by simpa using h1 j hj⟩
 ·rw[List.findIdx_eq_length]
  intro x hx
  obtain⟨i,hi,rfl⟩:=List.mem_iff_getElem.1 hx
  simpa using h1 i hi
theorem l75(t:Bool)(xs:List ID)(c s:Int)(g:Nat)(cap:List DV)(cm:ID→Int)(hg:∀x∈xs,∀h,fc D g ([eID x,.agg [.int .i64 c,.int .i64 s]]++cap) h=some (.int .i64 (cm x),h))(hl:xs.length≤1000000)
  (hm:∀i j (hi:i<xs.length) (hj:j<xs.length),i≤j→cm xs[j]<0→cm xs[i]<0) (h:aA) (cp:Option Nat) (Pk:h.get 0=some (.arr 24 2 [.agg [.int .i64 c,.int .i64 s]] cp)) :
  ∀(n i j:Nat) (f:dV),j-i=n→i≤j→j≤xs.length→f 0=eL t 2 eID xs→f 2=.func g cap→f 4=.ptr 0 2 0 0→f 8=.int .i64 xs.length→f 9=.int .i64 i→f 10=.int .i64 j →
  (∀q (hq:q<i),(zX:q<xs.length)→cm xs[q]<0)→(∀q (hq:q<xs.length),j≤q→¬cm xs[q]<0) →
  iK (fin [.t 6,.t 7] (run D 49 [.block 0,.seq E3] (.loop CN) f h))=some (.tup [.int .i64 (dQ cm xs),.bool (oN cm xs)]):=by
 intro n
 induction n using Nat.strongRecOn with
 | ind n ih =>
  intro i j f hn IF hj h0 h2 h4 h8 h9 wR Fq uA
  rw[aG CN.eq_1]
  by_cases aZ:i<j
  ·have hk:(i+j) / 2<xs.length:=by omega
   have LX:xs[(i+j) / 2]?=some xs[(i+j) / 2]:=List.getElem?_eq_getElem hk
   have Kr:=hg xs[(i+j) / 2] (List.getElem_mem hk)
   simp only[eID,List.cons_append,List.nil_append]at Kr
   have w1:IntKind.i64.wrap ((i:Int)+j)=((i:Int)+j):=bC (by omega) (by omega)
   have w2:IntKind.u64.wrap ((i:Int)+j)=((i:Int)+j):=Lk (by omega) (by omega)
   have w3:IntKind.i64.wrap (((i+j) / 2:Nat):Int)=((i+j) / 2:Nat):=bC (by omega) (by omega)
   have w4:IntKind.i64.wrap ((((i+j) / 2:Nat):Int)+1)=((((i+j) / 2:Nat):Int)+1):=bC (by omega) (by omega)
   by_cases hc:cm xs[(i+j) / 2]<0
   ·simp[h0,h2,h4,h8,h9,wR,aZ,hk,LX,Pk,Kr,eID,w1,w2,w3,w4,hc,-Int.natCast_ediv]
    refine ih (j-((i+j) / 2+1)) (by omega) ((i+j) / 2+1) j _ rfl (by omega) hj ?_ ?_ ?_ ?_ ?_ ?_ ?_ uA<;>try simp[h0,h2,h4,h8,wR,eID]
    intro q hq zX
    exact hm q ((i+j) / 2) zX hk (by omega) hc
   ·simp[h0,h2,h4,h8,h9,wR,aZ,hk,LX,Pk,Kr,eID,w1,w2,w3,w4,hc,-Int.natCast_ediv]
    refine ih ((i+j) / 2-i) (by omega) i ((i+j) / 2) _ rfl (by omega) (by omega) ?_ ?_ ?_ ?_ ?_ ?_ Fq ?_<;>simp[h0,h2,h4,h8,h9,eID]
    intro q hq zX
    exact Int.not_lt.1 fun hx=>hc (hm ((i+j) / 2) q hk hq zX hx)
  ·have hij':i=j:=by omega
   subst hij'
   have eN:dQ cm xs=i:=As hj (fun q hq=>Fq q hq (by omega)) (fun hq=>uA i hq (Nat.le_refl i))
   by_cases hi:i<xs.length
   ·have Kr:=hg xs[i] (List.getElem_mem hi)
    simp only[eID,List.cons_append,List.nil_append]at Kr
    have LX:xs[i]?=some xs[i]:=List.getElem?_eq_getElem hi
    simp[E3,h0,h2,h4,h8,h9,wR,hi,LX,Pk,Kr,eID,eN,oN,aV]
    rfl
   ·simp[E3,h0,h2,h4,h8,h9,wR,hi,eN,oN,aV]
theorem s75(t:Bool)(xs:List ID)(c s:Int)(g:Nat)(cap:List DV)(cm:ID→Int)(hg:∀x∈xs,∀h,fc D g ([eID x,.agg [.int .i64 c,.int .i64 s]]++cap) h=some (.int .i64 (cm x),h))(hl:xs.length≤1000000)
  (hm:∀i j (hi:i<xs.length) (hj:j<xs.length),i≤j→cm xs[j]<0→cm xs[i]<0) :
  pcF D t75 [eL t 2 eID xs,.agg [.int .i64 c,.int .i64 s],.func g cap]=some (.tup [.int .i64 (dQ cm xs),.bool (oN cm xs)]):=by
 unfold pcF
 rw[aM _ _ _ _ (by simp[t75])]
 simp[t75]
 refine l75 t xs c s g cap cm hg hl hm _ (some 1) (by simp) xs.length 0 xs.length _ (by omega) (by omega) (by omega) ?_ ?_ ?_ ?_ ?_ ?_ ?_ ?_<;>simp
 intro q hq zX
 omega
theorem l77(t:Bool)(xs:List cP)(c s:Int)(g:Nat)(cap:List DV)(cm:cP→Int)(hg:∀x∈xs,∀h,fc D g ([aH x,.agg [.int .i64 c,.int .i64 s]]++cap) h=some (.int .i64 (cm x),h))(hl:xs.length≤1000000)
  (hm:∀i j (hi:i<xs.length) (hj:j<xs.length),i≤j→cm xs[j]<0→cm xs[i]<0) (h:aA) (cp:Option Nat) (Pk:h.get 0=some (.arr 24 2 [.agg [.int .i64 c,.int .i64 s]] cp)) :
  ∀(n i j:Nat) (f:dV),j-i=n→i≤j→j≤xs.length→f 0=eL t 4 aH xs→f 2=.func g cap→f 4=.ptr 0 2 0 0→f 8=.int .i64 xs.length→f 9=.int .i64 i→f 10=.int .i64 j →
  (∀q (hq:q<i),(zX:q<xs.length)→cm xs[q]<0)→(∀q (hq:q<xs.length),j≤q→¬cm xs[q]<0) →
  iK (fin [.t 6,.t 7] (run D 49 [.block 0,.seq E2] (.loop CM) f h))=some (.tup [.int .i64 (dQ cm xs),.bool (oN cm xs)]):=by
 intro n
 induction n using Nat.strongRecOn with
 | ind n ih =>
  intro i j f hn IF hj h0 h2 h4 h8 h9 wR Fq uA
  rw[aG CM.eq_1]
  by_cases aZ:i<j
  ·have hk:(i+j) / 2<xs.length:=by omega
   have LX:xs[(i+j) / 2]?=some xs[(i+j) / 2]:=List.getElem?_eq_getElem hk
   have Kr:=hg xs[(i+j) / 2] (List.getElem_mem hk)
   simp only[aH,List.cons_append,List.nil_append]at Kr
   have w1:IntKind.i64.wrap ((i:Int)+j)=((i:Int)+j):=bC (by omega) (by omega)
   have w2:IntKind.u64.wrap ((i:Int)+j)=((i:Int)+j):=Lk (by omega) (by omega)
   have w3:IntKind.i64.wrap (((i+j) / 2:Nat):Int)=((i+j) / 2:Nat):=bC (by omega) (by omega)
   have w4:IntKind.i64.wrap ((((i+j) / 2:Nat):Int)+1)=((((i+j) / 2:Nat):Int)+1):=bC (by omega) (by omega)
   by_cases hc:cm xs[(i+j) / 2]<0
   ·simp[h0,h2,h4,h8,h9,wR,aZ,hk,LX,Pk,Kr,aH,w1,w2,w3,w4,hc,-Int.natCast_ediv]
    refine ih (j-((i+j) / 2+1)) (by omega) ((i+j) / 2+1) j _ rfl (by omega) hj ?_ ?_ ?_ ?_ ?_ ?_ ?_ uA<;>try simp[h0,h2,h4,h8,wR,aH]
    intro q hq zX
    exact hm q ((i+j) / 2) zX hk (by omega) hc
   ·simp[h0,h2,h4,h8,h9,wR,aZ,hk,LX,Pk,Kr,aH,w1,w2,w3,w4,hc,-Int.natCast_ediv]
    refine ih ((i+j) / 2-i) (by omega) i ((i+j) / 2) _ rfl (by omega) (by omega) ?_ ?_ ?_ ?_ ?_ ?_ Fq ?_<;>simp[h0,h2,h4,h8,h9,aH]
    intro q hq zX
    exact Int.not_lt.1 fun hx=>hc (hm ((i+j) / 2) q hk hq zX hx)
  ·have hij':i=j:=by omega
   subst hij'
   have eN:dQ cm xs=i:=As hj (fun q hq=>Fq q hq (by omega)) (fun hq=>uA i hq (Nat.le_refl i))
   by_cases hi:i<xs.length
   ·have Kr:=hg xs[i] (List.getElem_mem hi)
    simp only[aH,List.cons_append,List.nil_append]at Kr
    have LX:xs[i]?=some xs[i]:=List.getElem?_eq_getElem hi
    simp[E2,h0,h2,h4,h8,h9,wR,hi,LX,Pk,Kr,aH,eN,oN,aV]
    rfl
   ·simp[E2,h0,h2,h4,h8,h9,wR,hi,eN,oN,aV]
theorem s77(t:Bool)(xs:List cP)(c s:Int)(g:Nat)(cap:List DV)(cm:cP→Int)(hg:∀x∈xs,∀h,fc D g ([aH x,.agg [.int .i64 c,.int .i64 s]]++cap) h=some (.int .i64 (cm x),h))(hl:xs.length≤1000000)
  (hm:∀i j (hi:i<xs.length) (hj:j<xs.length),i≤j→cm xs[j]<0→cm xs[i]<0) :
  pcF D t77 [eL t 4 aH xs,.agg [.int .i64 c,.int .i64 s],.func g cap]=some (.tup [.int .i64 (dQ cm xs),.bool (oN cm xs)]):=by
 unfold pcF
 rw[aM _ _ _ _ (by simp[t77])]
 simp[t77]
 refine l77 t xs c s g cap cm hg hl hm _ (some 1) (by simp) xs.length 0 xs.length _ (by omega) (by omega) (by omega) ?_ ?_ ?_ ?_ ?_ ?_ ?_ ?_<;>simp
 intro q hq zX
 omega
end Go.Dm.Tc
/-
What functions of the library compute,part 4: an element put into a row of the call's own.
-/
namespace Go.Dm.Tc
theorem a34(H:aA)(n0:Nat)(xs:List cP)(i:Nat)(x:cP)(qD vety:Nat)(vcap:Option Nat)(g0:H.get n0=some (.arr 37 4 (xs.map aH++[.unk]) none))(gv:H.get qD=some (.arr vety 4 [aH x] vcap))(hi:i≤xs.length)(hl:xs.length≤1000000)(wf:WF H)(bH:H.lim≤n0)(cS:qD≠n0) :
  ∃ H',gS (ev D) t34 [.sl n0 4 0 xs.length,.int .i64 i,.sl qD 4 0 1] H=some (.sl n0 4 0 (xs.length+1),H')∧H'.get n0=some (.arr 37 4 ((xs.take i++x::xs.drop i).map aH) none):=by
 have aZ:=aC g0
 have w1:IntKind.i64.wrap ((xs.length:Int)+1)=(xs.length:Int)+1:=bC (by omega) (by omega)
 rw[aM _ _ _ _ (by simp[t34])]
 by_cases Fw:i=xs.length
 ·subst Fw
  simp[t34,g0,gv]
  rw[mC g0 (by simp) bH (by simp;omega) (by decide) (by simp)]
  simp[cO wf aZ,cF]
 ·have Zh:¬((i:Int)=xs.length):=by omega
  have w2:IntKind.i64.wrap ((i:Int)+1)=(i:Int)+1:=bC (by omega) (by omega)
  have sT:i+1≤xs.length+1:=by omega
  have MB:i+1+(xs.length-i)≤xs.length+1:=by omega
  have hi3:i+(xs.length+1-i)≤xs.length+1:=by omega
  have hi4:i≤xs.length+1:=by omega
  have hx:i<(xs.map aH).length:=by simp;omega
  have e1:=Ki (xs.map aH) .unk i hx
  have e2:=K8 (xs.map aH) (aH x) i hx
  have hi5:xs.length+1≤min (i+1) xs.length+(xs.length-i):=by omega
  have hi6:i+1≤min (i+1) xs.length+(xs.length-i):=by omega
  simp only[List.length_map]at e1 e2
  simp[t34,g0,gv,Zh,hi,w1,w2,e1,e2,hi5,hi6,sT,MB,hi3,hi4,e79,dM,cS,bH,aZ,cO wf,cO wf.set]
  have e3:List.take (xs.length+1-i) [aH x]=[aH x]:=List.take_of_length_le (by simp;omega)
  rw[e3,e2]
theorem b34(H:aA)(n0:Nat)(xs:List cP)(i:Nat)(x:cP)(qD vety:Nat)(vcap:Option Nat)(g0:H.get n0=some (.arr 37 4 (xs.map aH) (some xs.length)))(gv:H.get qD=some (.arr vety 4 [aH x] vcap))(hi:i≤xs.length)(hl:xs.length≤1000000)(wf:WF H)(bH:H.lim≤n0)(cS:qD≠n0) :
  ∃ H',gS (ev D) t34 [.sl n0 4 0 xs.length,.int .i64 i,.sl qD 4 0 1] H=some (.sl H.n 4 0 (xs.length+1),H')∧H'.get H.n=some (.arr 37 4 ((xs.take i++x::xs.drop i).map aH) none):=by
 have aZ:=aC g0
 have RZ:=aC gv
 have w1:IntKind.i64.wrap ((xs.length:Int)+1)=(xs.length:Int)+1:=bC (by omega) (by omega)
 rw[aM _ _ _ _ (by simp[t34])]
 by_cases Fw:i=xs.length
 ·subst Fw
  simp[t34,g0,gv]
  rw[iW g0 (by simp) (by simp) (by simp;omega) (by decide) (by simp)]
  simp
  rw[List.take_of_length_le (by simp)]
 ·have Zh:¬((i:Int)=xs.length):=by omega
  have w2:IntKind.i64.wrap ((i:Int)+1)=(i:Int)+1:=bC (by omega) (by omega)
  have w3:IntKind.i64.wrap ((xs.length:Int)+1-i)=((xs.length+1-i:Nat):Int):=by rw[bC (by omega) (by omega)];omega
  have hx:i<(xs.map aH).length:=by simp;omega
  have hq:(xs.length:Int)<(xs.length:Int)+1:=by omega
  have Ik:H.lim≤H.n:=by omega
  have hz:((xs.length+1-i:Nat):Int)≤140737488355328:=by omega
  have e1:=fun z=>Su (xs.map aH) z (aH x) i hx
  have e2:=fun z=>Ss (xs.map aH) z (aH x) i hx
  have e3:i+(xs.length+1-i)=xs.length+1:=by omega
  have e4:i+(xs.length-i+1)=xs.length+1:=by omega
  have e5:i+1≤xs.length+1:=by omega
  have e6:i+1+(xs.length-i)≤xs.length+1:=by omega
  have e7:i≤xs.length+1:=by omega
  have e8:List.take (xs.length+1-i) [aH x]=[aH x]:=List.take_of_length_le (by simp;omega)
  have e9:List.take (xs.length-i) (List.drop i (List.map aH xs))=List.drop i (List.map aH xs):=List.take_of_length_le (by simp)
  simp only[List.length_map]at e1 e2
  simp[t34,g0,gv,Zh,hi,w1,w2,w3,hq,hz]
  rw[iW g0 (by simp;omega) (by simp;omega) (by simp;omega) (by decide) (by simp;omega)]
  simp[g0,gv,w2,hi,aZ,RZ,bH,Ik,e3,e4,e5,e6,e7,e1,e2,e8,e9,Nat.ne_of_lt aZ,Nat.ne_of_lt RZ,Nat.min_eq_left hi]
theorem s34(lo:Nat)(h:aA)(v:DV)(xs:List cP)(i:Nat)(x:cP)(qD vety c:Nat)(ho:Own lo h v 37 4 (xs.map aH))(gv:h.get qD=some (.arr vety 4 [aH x] (some c)))(hi:i≤xs.length)(hl:xs.length≤1000000)(wf:WF h)(eN:lo≤h.n)(bH:h.lim≤h.n) :
  ∃ v' h',fc D 34 [v,.int .i64 i,.sl qD 4 0 1] h=some (v',h')∧Own lo h' v' 37 4 ((xs.take i++x::xs.drop i).map aH)∧Ext lo h h'∧jH 37 h h':=by
 have RZ:=aC gv
 rw[e34]
 cases ho with
 | nil hv hx =>
  subst hv
  have Kk:xs=[]:=List.map_eq_nil_iff.1 hx
  subst Kk
  have Zj:i=0:=by simpa using hi
  subst Zj
  refine⟨.sl h.n 4 0 1,h.push (.arr 37 4 [aH x] none),?_,.arr h.n rfl cW bH eN,(Ext.refl eN wf).push,(jH.refl _ _).push⟩
  simp only[dI,t34]
  rw[aM _ _ _ _ (by simp)]
  simp[gv,fB,bB]
 | arr id hv hg Hj sT =>
  subst hv
  have aZ:=aC hg
  have cS:qD≠id:=by intro e;subst e;rw[gv]at hg;simp at hg
  have hw:WF (h.set id .dead):=wf.set
  have gv':∀o l,({(h.set id .dead).push o with lim:=l}:aA).get qD=some (.arr vety 4 [aH x] (some c)):=fun o l=>by
   rw[Dj,cJ,if_neg (by rw[NR];omega),cO wf aZ,if_neg cS];exact gv
  have g0:∀o l,({(h.set id .dead).push o with lim:=l}:aA).get h.n=some o:=fun o l=>by
   rw[Dj];exact cW
  have gR:((xs.take i++x::xs.drop i).map aH).all (dP 200 h.n)=true:=by
   rw[List.all_eq_true]
   intro y hy
   obtain⟨z,_,rfl⟩:=List.mem_map.1 hy
   exact(B1 z).belowN (by decide)
  have hd:List.take (xs.length+1) (List.drop 0 ((xs.take i++x::xs.drop i).map aH))=(xs.take i++x::xs.drop i).map aH:=by
   rw[List.drop_zero,List.take_of_length_le (by simp only[List.length_map,List.length_append,List.length_take,List.length_cons,List.length_drop];omega)]
  have sc1:hI (ev D) t34 [.int .i64 i,.sl qD 4 0 1] id 4 0 (xs.map aH).length 37 (xs.map aH) h 1 none=some ((xs.take i++x::xs.drop i).map aH):=by
   obtain⟨H',k1,k2⟩:=a34 {(h.set id .dead).push (.arr 37 4 (xs.map aH++[.unk]) none)with lim:=h.n} h.n xs i x qD vety (some c) (g0 _ _) (gv' _ _) hi hl hw.push (Nat.le_refl _) (by omega)
   simp only[hI,List.length_map,List.replicate_one]
   rw[k1]
   have bY:0+(xs.length+1)≤((xs.take i++x::xs.drop i).map aH).length:=by simp;omega
   simp only[nZ,k2,true_and,Nat.le_refl]
   rw[hd,if_pos ⟨bY,gR⟩]
  have sc2:hI (ev D) t34 [.int .i64 i,.sl qD 4 0 1] id 4 0 (xs.map aH).length 37 (xs.map aH) h 0 (some ((xs.map aH).length+0))=some ((xs.take i++x::xs.drop i).map aH):=by
   obtain⟨H',k1,k2⟩:=b34 {(h.set id .dead).push (.arr 37 4 (xs.map aH) (some xs.length))with lim:=h.n} h.n xs i x qD vety (some c) (g0 _ _) (gv' _ _) hi hl hw.push (Nat.le_refl _) (by omega)
   simp only[hI,List.length_map,List.replicate_zero,List.append_nil,Nat.add_zero]
   rw[k1]
   have bY:0+(xs.length+1)≤((xs.take i++x::xs.drop i).map aH).length:=by simp;omega
   have hn:h.n≤({(h.set id .dead).push (.arr 37 4 (xs.map aH) (some xs.length))with lim:=h.n}:aA).n:=Nat.le_succ _
   simp only[nZ,k2,true_and]
   rw[hd,if_pos ⟨hn,bY,gR⟩]
  have lM:sW ((xs.take i++x::xs.drop i).map aH) ((xs.take i++x::xs.drop i).map aH)=true:=kN _
  refine⟨.sl h.n 4 0 ((xs.take i++x::xs.drop i).map aH).length,(h.set id .dead).push (.arr 37 4 ((xs.take i++x::xs.drop i).map aH) none),?_,.arr h.n rfl (by exact cW) bH eN,((Ext.refl eN wf).set sT aZ).push,((jH.refl _ _).set wf hg aZ).push⟩
  simp only[dI,show t34.mode=.split from rfl,hg,true_and,Hj,if_true]
  unfold jN
  have hk:(List.map zZ [DV.int .i64 (i:Int),DV.sl qD 4 0 1]).foldl (·+·) 0=1:=rfl
  rw[hk,sc1]
  simp only[List.range_one,List.all_cons,List.all_nil,sc2,lM,Bool.and_self,if_true]
theorem q34{h:aA}{v:DV}{i qD:Nat}{A:Option (DV×aA)}(hA:fc D 34 [v,.int .i64 (i:Int),.sl qD 4 0 1] h=A)(lo:Nat)(xs:List cP)(x:cP){vety c:Nat}(ho:Own lo h v 37 4 (xs.map aH))(gv:h.get qD=some (.arr vety 4 [aH x] (some c)))(hi:i≤xs.length)(hl:xs.length≤1000000)(wf:WF h)(eN:lo≤h.n)(bH:h.lim≤h.n) :
  ∃ v' h',A=some (v',h')∧Own lo h' v' 37 4 ((xs.take i++x::xs.drop i).map aH)∧Ext lo h h'∧jH 37 h h':=by
 subst hA
 exact s34 lo h v xs i x qD vety c ho gv hi hl wf eN bH
theorem a35(H:aA)(n0:Nat)(xs:List ID)(i:Nat)(x:ID)(qD vety:Nat)(vcap:Option Nat)(g0:H.get n0=some (.arr 24 2 (xs.map eID++[.unk]) none))(gv:H.get qD=some (.arr vety 2 [eID x] vcap))(hi:i≤xs.length)(hl:xs.length≤1000000)(wf:WF H)(bH:H.lim≤n0)(cS:qD≠n0) :
  ∃ H',gS (ev D) t35 [.sl n0 2 0 xs.length,.int .i64 i,.sl qD 2 0 1] H=some (.sl n0 2 0 (xs.length+1),H')∧H'.get n0=some (.arr 24 2 ((xs.take i++x::xs.drop i).map eID) none):=by
 have aZ:=aC g0
 have w1:IntKind.i64.wrap ((xs.length:Int)+1)=(xs.length:Int)+1:=bC (by omega) (by omega)
 rw[aM _ _ _ _ (by simp[t35])]
 by_cases Fw:i=xs.length
 ·subst Fw
  simp[t35,g0,gv]
  rw[mC g0 (by simp) bH (by simp;omega) (by decide) (by simp)]
  simp[cO wf aZ,cF]
 ·have Zh:¬((i:Int)=xs.length):=by omega
  have w2:IntKind.i64.wrap ((i:Int)+1)=(i:Int)+1:=bC (by omega) (by omega)
  have sT:i+1≤xs.length+1:=by omega
  have MB:i+1+(xs.length-i)≤xs.length+1:=by omega
  have hi3:i+(xs.length+1-i)≤xs.length+1:=by omega
  have hi4:i≤xs.length+1:=by omega
  have hx:i<(xs.map eID).length:=by simp;omega
  have e1:=Ki (xs.map eID) .unk i hx
  have e2:=K8 (xs.map eID) (eID x) i hx
  have hi5:xs.length+1≤min (i+1) xs.length+(xs.length-i):=by omega
  have hi6:i+1≤min (i+1) xs.length+(xs.length-i):=by omega
  simp only[List.length_map]at e1 e2
  simp[t35,g0,gv,Zh,hi,w1,w2,e1,e2,hi5,hi6,sT,MB,hi3,hi4,e81,dM,cS,bH,aZ,cO wf,cO wf.set]
  have e3:List.take (xs.length+1-i) [eID x]=[eID x]:=List.take_of_length_le (by simp;omega)
  rw[e3,e2]
theorem b35(H:aA)(n0:Nat)(xs:List ID)(i:Nat)(x:ID)(qD vety:Nat)(vcap:Option Nat)(g0:H.get n0=some (.arr 24 2 (xs.map eID) (some xs.length)))(gv:H.get qD=some (.arr vety 2 [eID x] vcap))(hi:i≤xs.length)(hl:xs.length≤1000000)(wf:WF H)(bH:H.lim≤n0)(cS:qD≠n0) :
  ∃ H',gS (ev D) t35 [.sl n0 2 0 xs.length,.int .i64 i,.sl qD 2 0 1] H=some (.sl H.n 2 0 (xs.length+1),H')∧H'.get H.n=some (.arr 24 2 ((xs.take i++x::xs.drop i).map eID) none):=by
 have aZ:=aC g0
 have RZ:=aC gv
 have w1:IntKind.i64.wrap ((xs.length:Int)+1)=(xs.length:Int)+1:=bC (by omega) (by omega)
 rw[aM _ _ _ _ (by simp[t35])]
 by_cases Fw:i=xs.length
 ·subst Fw
  simp[t35,g0,gv]
  rw[iW g0 (by simp) (by simp) (by simp;omega) (by decide) (by simp)]
  simp
  rw[List.take_of_length_le (by simp)]
 ·have Zh:¬((i:Int)=xs.length):=by omega
  have w2:IntKind.i64.wrap ((i:Int)+1)=(i:Int)+1:=bC (by omega) (by omega)
  have w3:IntKind.i64.wrap ((xs.length:Int)+1-i)=((xs.length+1-i:Nat):Int):=by rw[bC (by omega) (by omega)];omega
  have hx:i<(xs.map eID).length:=by simp;omega
  have hq:(xs.length:Int)<(xs.length:Int)+1:=by omega
  have Ik:H.lim≤H.n:=by omega
  have hz:((xs.length+1-i:Nat):Int)≤140737488355328:=by omega
  have e1:=fun z=>Su (xs.map eID) z (eID x) i hx
  have e2:=fun z=>Ss (xs.map eID) z (eID x) i hx
  have e3:i+(xs.length+1-i)=xs.length+1:=by omega
  have e4:i+(xs.length-i+1)=xs.length+1:=by omega
  have e5:i+1≤xs.length+1:=by omega
  have e6:i+1+(xs.length-i)≤xs.length+1:=by omega
  have e7:i≤xs.length+1:=by omega
  have e8:List.take (xs.length+1-i) [eID x]=[eID x]:=List.take_of_length_le (by simp;omega)
  have e9:List.take (xs.length-i) (List.drop i (List.map eID xs))=List.drop i (List.map eID xs):=List.take_of_length_le (by simp)
  simp only[List.length_map]at e1 e2
  simp[t35,g0,gv,Zh,hi,w1,w2,w3,hq,hz]
  rw[iW g0 (by simp;omega) (by simp;omega) (by simp;omega) (by decide) (by simp;omega)]
  simp[g0,gv,w2,hi,aZ,RZ,bH,Ik,e3,e4,e5,e6,e7,e1,e2,e8,e9,Nat.ne_of_lt aZ,Nat.ne_of_lt RZ,Nat.min_eq_left hi]
theorem s35(lo:Nat)(h:aA)(v:DV)(xs:List ID)(i:Nat)(x:ID)(qD vety c:Nat)(ho:Own lo h v 24 2 (xs.map eID))(gv:h.get qD=some (.arr vety 2 [eID x] (some c)))(hi:i≤xs.length)(hl:xs.length≤1000000)(wf:WF h)(eN:lo≤h.n)(bH:h.lim≤h.n) :
  ∃ v' h',fc D 35 [v,.int .i64 i,.sl qD 2 0 1] h=some (v',h')∧Own lo h' v' 24 2 ((xs.take i++x::xs.drop i).map eID)∧Ext lo h h'∧jH 24 h h':=by
 have RZ:=aC gv
 rw[e35]
 cases ho with
 | nil hv hx =>
  subst hv
  have Kk:xs=[]:=List.map_eq_nil_iff.1 hx
  subst Kk
  have Zj:i=0:=by simpa using hi
  subst Zj
  refine⟨.sl h.n 2 0 1,h.push (.arr 24 2 [eID x] none),?_,.arr h.n rfl cW bH eN,(Ext.refl eN wf).push,(jH.refl _ _).push⟩
  simp only[dI,t35]
  rw[aM _ _ _ _ (by simp)]
  simp[gv,fB,bB]
 | arr id hv hg Hj sT =>
  subst hv
  have aZ:=aC hg
  have cS:qD≠id:=by intro e;subst e;rw[gv]at hg;simp at hg
  have hw:WF (h.set id .dead):=wf.set
  have gv':∀o l,({(h.set id .dead).push o with lim:=l}:aA).get qD=some (.arr vety 2 [eID x] (some c)):=fun o l=>by
   rw[Dj,cJ,if_neg (by rw[NR];omega),cO wf aZ,if_neg cS];exact gv
  have g0:∀o l,({(h.set id .dead).push o with lim:=l}:aA).get h.n=some o:=fun o l=>by
   rw[Dj];exact cW
  have gR:((xs.take i++x::xs.drop i).map eID).all (dP 200 h.n)=true:=by
   rw[List.all_eq_true]
   intro y hy
   obtain⟨z,_,rfl⟩:=List.mem_map.1 hy
   exact(SW z).belowN (by decide)
  have hd:List.take (xs.length+1) (List.drop 0 ((xs.take i++x::xs.drop i).map eID))=(xs.take i++x::xs.drop i).map eID:=by
   rw[List.drop_zero,List.take_of_length_le (by simp only[List.length_map,List.length_append,List.length_take,List.length_cons,List.length_drop];omega)]
  have sc1:hI (ev D) t35 [.int .i64 i,.sl qD 2 0 1] id 2 0 (xs.map eID).length 24 (xs.map eID) h 1 none=some ((xs.take i++x::xs.drop i).map eID):=by
   obtain⟨H',k1,k2⟩:=a35 {(h.set id .dead).push (.arr 24 2 (xs.map eID++[.unk]) none)with lim:=h.n} h.n xs i x qD vety (some c) (g0 _ _) (gv' _ _) hi hl hw.push (Nat.le_refl _) (by omega)
   simp only[hI,List.length_map,List.replicate_one]
   rw[k1]
   have bY:0+(xs.length+1)≤((xs.take i++x::xs.drop i).map eID).length:=by simp;omega
   simp only[nZ,k2,true_and,Nat.le_refl]
   rw[hd,if_pos ⟨bY,gR⟩]
  have sc2:hI (ev D) t35 [.int .i64 i,.sl qD 2 0 1] id 2 0 (xs.map eID).length 24 (xs.map eID) h 0 (some ((xs.map eID).length+0))=some ((xs.take i++x::xs.drop i).map eID):=by
   obtain⟨H',k1,k2⟩:=b35 {(h.set id .dead).push (.arr 24 2 (xs.map eID) (some xs.length))with lim:=h.n} h.n xs i x qD vety (some c) (g0 _ _) (gv' _ _) hi hl hw.push (Nat.le_refl _) (by omega)
   simp only[hI,List.length_map,List.replicate_zero,List.append_nil,Nat.add_zero]
   rw[k1]
   have bY:0+(xs.length+1)≤((xs.take i++x::xs.drop i).map eID).length:=by simp;omega
   have hn:h.n≤({(h.set id .dead).push (.arr 24 2 (xs.map eID) (some xs.length))with lim:=h.n}:aA).n:=Nat.le_succ _
   simp only[nZ,k2,true_and]
   rw[hd,if_pos ⟨hn,bY,gR⟩]
  have lM:sW ((xs.take i++x::xs.drop i).map eID) ((xs.take i++x::xs.drop i).map eID)=true:=kN _
  refine⟨.sl h.n 2 0 ((xs.take i++x::xs.drop i).map eID).length,(h.set id .dead).push (.arr 24 2 ((xs.take i++x::xs.drop i).map eID) none),?_,.arr h.n rfl (by exact cW) bH eN,((Ext.refl eN wf).set sT aZ).push,((jH.refl _ _).set wf hg aZ).push⟩
  simp only[dI,show t35.mode=.split from rfl,hg,true_and,Hj,if_true]
  unfold jN
  have hk:(List.map zZ [DV.int .i64 (i:Int),DV.sl qD 2 0 1]).foldl (·+·) 0=1:=rfl
  rw[hk,sc1]
  simp only[List.range_one,List.all_cons,List.all_nil,sc2,lM,Bool.and_self,if_true]
theorem q35{h:aA}{v:DV}{i qD:Nat}{A:Option (DV×aA)}(hA:fc D 35 [v,.int .i64 (i:Int),.sl qD 2 0 1] h=A)(lo:Nat)(xs:List ID)(x:ID){vety c:Nat}(ho:Own lo h v 24 2 (xs.map eID))(gv:h.get qD=some (.arr vety 2 [eID x] (some c)))(hi:i≤xs.length)(hl:xs.length≤1000000)(wf:WF h)(eN:lo≤h.n)(bH:h.lim≤h.n) :
  ∃ v' h',A=some (v',h')∧Own lo h' v' 24 2 ((xs.take i++x::xs.drop i).map eID)∧Ext lo h h'∧jH 24 h h':=by
 subst hA
 exact s35 lo h v xs i x qD vety c ho gv hi hl wf eN bH
end Go.Dm.Tc
/-
What functions of the statements' books compute: are two rows the same?
-/
namespace Go.Dm.Tc
end Go.Dm.Tc
/-
What functions of the library compute,part 6: an element taken out of a row of the call's own;elements taken out by a function.
-/
namespace Go.Dm.Tc
def lenOf:DV→Option Nat
 | .nsl=>some 0
 | .sl _ _ _ len=>some len
 | .isl _ _ xs=>some xs.length
 | _=>none
def yM(x lo hi mx:DV):Option DV :=
 match lenOf x with
 | some len=>match cG (some mx) 0 len with
  | some m=>match cG (some hi) 0 m with
   | some b=>match cG (some lo) 0 b with
    | some _=>some .unk
    | none=>none
   | none=>none
  | none=>none
 | none=>none
def xT(h:aA)(sz:Nat)(z x:DV):Option (DV×aA) :=
 match x with
 | .nsl=>some (.tup [],h)
 | .isl _ _ []=>some (.tup [],h)
 | .sl id dK off len=>if len=0 then some (.tup [],h)else match uK h sz (.sl id dK off len) (List.replicate len z)with|some (_,h')=>some (.tup [],h')|none=>none
 | _=>none
theorem Ka(c:Nat→List DV→aA→Option (DV×aA))(h:aA)(env:Env)(x lo hi mx:Opd):bE c (.slice3 x lo hi mx) env h=cU h (yM (x.eval env) (lo.eval env) (hi.eval env) (mx.eval env)):=by
 simp only[bE,aB,yM,Gy,Option.map_some]
 cases x.eval env<;>try rfl
 all_goals
  simp only[lenOf]
  generalize cG (some (mx.eval env)) 0 _=A
  cases A with
  | none=>rfl
  | some m =>
   simp only
   cases cG (some (hi.eval env)) 0 m with
   | none=>rfl
   | some b =>
    simp only
    cases cG (some (lo.eval env)) 0 b with
    | none=>rfl
    | some a=>rfl
theorem yW(c:Nat→List DV→aA→Option (DV×aA))(h:aA)(env:Env)(sz:Nat)(z:DV)(x:Opd):bE c (.clear sz z x) env h=xT h sz z (x.eval env):=by
 simp only[bE,aB,xT]
 cases x.eval env<;>rfl
theorem Wr{id sz off len lo hi:Nat}(h1:lo≤hi)(h2:hi≤len):yM (.sl id sz off len) (.int .i64 (lo:Int)) (.int .i64 (hi:Int)) (.int .i64 (len:Int))=some .unk:=by
 simp only[yM,lenOf]
 rw[mB _ _ _ _ (Nat.le_refl _)]
 simp only
 rw[mB _ _ _ _ h2]
 simp only
 rw[mB _ _ _ _ h1]
theorem vR{h:aA}{id ety sz off len:Nat}{xs:List DV}{cap:Option Nat}{z:DV}(hg:h.get id=some (.arr ety sz xs cap))(hl:off+len≤xs.length)(bH:h.lim≤id)(h0:len≠0) :
  xT h sz z (.sl id sz off len)=some (.tup [],h.set id (.arr ety sz (cF xs (List.replicate len z) off) cap)):=by
 simp[xT,h0,hg,hl,bH]
theorem SX(X:List DV)(i:Nat)(hi:i+1<X.length):cF X (X.drop (i+1)) i=(X.take i++X.drop (i+1))++X.drop (X.length-1):=by
 unfold cF
 rw[List.length_drop]
 congr 2
 omega
theorem Wp(A B ys:List DV):cF (A++B) ys A.length=A++(ys++B.drop ys.length):=by
 unfold cF
 rw[List.take_left' rfl,List.append_assoc,List.drop_append]
 simp
theorem XS(lo:Nat)(h:aA)(v:DV)(xs:List cP)(i:Nat)(ho:Own lo h v 37 4 (xs.map aH))(hi:i<xs.length)(hl:xs.length≤1000000)(wf:WF h)(eN:lo≤h.n) :
  ∃ v' h',fc D 135 [v,.int .i64 (i:Int),.int .i64 ((i:Int)+1)] h=some (v',h')∧OwnR lo h' v' 37 4 ((xs.take i++xs.drop (i+1)).map aH)∧Ext lo h h'∧jH 37 h h':=by
 rw[ZF]
 cases ho with
 | nil hv hx =>
  have Kk:xs=[]:=List.map_eq_nil_iff.1 hx
  subst Kk
  simp at hi
 | arr id hv hg Hj sT =>
  subst hv
  have aZ:=aC hg
  have hb3:yM (.sl id 4 0 xs.length) (.int .i64 (i:Int)) (.int .i64 ((i:Int)+1)) (.int .i64 (xs.length:Int))=some .unk:=Wr (hi:=i+1) (by omega) (by omega)
  have cS:¬((i:Int)=(i:Int)+1):=by omega
  rw[aM _ _ _ _ (by simp[P6])]
  by_cases hend:i+1=xs.length
  ·have h1:i+1≤xs.length:=by omega
   have e2:xs.length-(i+1)=0:=by omega
   have e3:List.drop (i+1) xs=[]:=List.drop_eq_nil_of_le (by omega)
   have e4:xs.length-i=1:=by omega
   have hn0:(i:Int)≤(xs.length:Int):=by omega
   have vM:∀z,xT h 4 z (.sl id 4 i 1)=some (.tup [],h.set id (.arr 37 4 (cF (xs.map aH) [z] i) none)):=fun z=>vR (len:=1) hg (by simp;omega) Hj (by decide)
   have hap:bB h 37 4 48 (.sl id 4 0 i) []=some (.sl id 4 0 i,h):=rfl
   have tZ:i≤xs.length:=by omega
   simp[P6,Ka,yW,hb3,cS,hg,h1,e2,e3,e4,vM,hap,tZ]
   refine⟨_,_,⟨rfl,rfl⟩,.arr id [(.agg [.int .i64 0,.int .i64 0,.nsl,.int .i64 0])] none (by simp;omega) ?_ Hj sT,(Ext.refl eN wf).set sT aZ,(jH.refl _ _).set wf hg aZ⟩
   rw[cO wf aZ,if_pos rfl]
   simp[cF]
   omega
  ·have h1:i+1≤xs.length:=by omega
   have h2:i+1<(xs.map aH).length:=by simp;omega
   have e1:List.take (xs.length-(i+1)) (List.drop (i+1) (List.map aH xs))=List.drop (i+1) (List.map aH xs):=List.take_of_length_le (by simp)
   have e5:i+1+(xs.length-(i+1))≤xs.length:=by omega
   have e6:i+(xs.length-(i+1))=xs.length-1:=by omega
   have e7:xs.length-(xs.length-1)=1:=by omega
   have tZ:i≤xs.length:=by omega
   have hq:xs.length-1≤xs.length:=by omega
   obtain⟨H,hH⟩:∃ H,H=h.set id (.arr 37 4 ((xs.map aH).take i++(xs.map aH).drop (i+1)++(xs.map aH).drop (xs.length-1)) none):=⟨_,rfl⟩
   have hap:bB h 37 4 48 (.sl id 4 0 i) (List.drop (i+1) (List.map aH xs))=some (.sl id 4 0 (xs.length-1),H):=by
    rw[mC hg (by simp;omega) Hj (by simp;omega) (by decide) (by simp;omega),SX _ _ h2,hH]
    simp[e6]
   have gH:H.get id=some (.arr 37 4 ((xs.map aH).take i++(xs.map aH).drop (i+1)++(xs.map aH).drop (xs.length-1)) none):=by rw[hH,cO wf aZ,if_pos rfl]
   have lH:H.lim=h.lim:=by rw[hH];rfl
   have wH:WF H:=by rw[hH];exact wf.set
   have nH:H.n=h.n:=by rw[hH];rfl
   have LW:(List.take i (xs.map aH)++List.drop (i+1) (xs.map aH)).length=xs.length-1:=by simp;omega
   have vM:∀z,xT H 4 z (.sl id 4 (xs.length-1) 1)=some (.tup [],H.set id (.arr 37 4 (cF ((xs.map aH).take i++(xs.map aH).drop (i+1)++(xs.map aH).drop (xs.length-1)) [z] (xs.length-1)) none)):=fun z=>vR (len:=1) gH (by simp;omega) (by rw[lH];exact Hj) (by decide)
   have yB:IntKind.i64.wrap ((xs.length-1:Nat):Int)=((xs.length-1:Nat):Int):=bC (by omega) (by omega)
   have Vi:Mn 4 4 id 0 (xs.length-1) (some (.int .i64 ((xs.length-1:Nat):Int))) (some (.int .i64 ((xs.length:Nat):Int))) (H.get id)=some (.sl id 4 (xs.length-1) 1):=by
    have hL:(List.take i (xs.map aH)++List.drop (i+1) (xs.map aH)++List.drop (xs.length-1) (xs.map aH)).length=xs.length:=by simp;omega
    rw[gH,Bt,hL,if_pos ⟨rfl,rfl,by omega⟩,mB _ _ _ _ (by omega),Bs,mB _ _ _ _ (by omega),Jp]
    simp[e7]
   simp[P6,Ka,yW,hb3,cS,hg,h1,e1,hap,tZ,Vi,vM]
   refine⟨_,_,⟨rfl,rfl⟩,.arr id [(.agg [.int .i64 0,.int .i64 0,.nsl,.int .i64 0])] none (by simp;omega) ?_ ?_ sT,?_,?_⟩
   ·rw[cO wH (by rw[nH];exact aZ),if_pos rfl]
    have:=Wp (List.take i (xs.map aH)++List.drop (i+1) (xs.map aH)) (List.drop (xs.length-1) (xs.map aH)) [(.agg [.int .i64 0,.int .i64 0,.nsl,.int .i64 0])]
    rw[LW]at this
    rw[List.append_assoc]at this
    rw[this]
    simp
    omega
   ·show H.lim≤id
    rw[lH];exact Hj
   ·rw[hH]
    exact((Ext.refl eN wf).set sT aZ).set sT (by exact aZ)
   ·rw[hH]
    exact((jH.refl _ _).set wf hg aZ).set wf.set hg (by exact aZ)
end Go.Dm.Tc
/-
What functions of the library compute,part 7: elements taken out by a function.
-/
namespace Go.Dm.Tc
def Vm:DV:=.agg [.int .i64 0,.int .i64 0,.int .i64 0,.int .i64 0,.nsl,.int .i64 0,.bool false]
theorem YU(lo:Nat)(h:aA)(xs:List bL)(id g:Nat)(cap:List DV)(p:bL→Bool)(hl:xs.length≤1000000)(sT:lo≤id)(bH:h.lim≤id)(aZ:id<h.n)(eN:lo≤h.n)
  (Fu:∃ s ys c,h.get id=some (.arr 58 s ys c))
  (BN:∀x∈xs,∀h',Ext lo h h'→fc D g ([bQ x]++cap) h'=some (.bool (p x),h')) :
  ∀(rest:List bL) (j k:Nat) (kept zs:List bL) (f:dV) (H:aA),xs.drop j=rest→k<j→kept.length=k→zs.length=xs.length→zs.take k=kept→zs.drop j=rest→k<xs.length →
   H.get id=some (.arr 58 7 (zs.map bQ) none)→f 0=.sl id 7 0 xs.length→f 1=.func g cap→f 5=.int .i64 k→f 6=.int .i64 j→Ext lo h H→jH 58 h H→h.n≤H.n →
  ∃ v' h',fin [.t 4] (run D 42 [.block 0,.seq Wg] (.loop Lv) f H)=some (v',h')∧OwnR lo h' v' 58 7 ((kept++rest.filter (fun x=>!p x)).map bQ)∧Ext lo h h'∧jH 58 h h':=by
 obtain⟨s0,ys0,c0,Fu⟩:=Fu
 intro rest
 induction rest with
 | nil =>
  intro j k kept zs f H hd hkj OE NW SC hdj Vl hg h0 h1 h5 h6 hx hK hn
  have hi:=iB hd
  have hnl:¬(j<xs.length):=by omega
  have hkl':k≤xs.length:=by omega
  have hd0:xs.length-k≠0:=by omega
  have vM:∀z,xT H 7 z (.sl id 7 k (xs.length-k))=some (.tup [],H.set id (.arr 58 7 (cF (zs.map bQ) (List.replicate (xs.length-k) z) k) none)):=fun z=>vR hg (by simp;omega) (by rw[hx.lim];exact bH) hd0
  have hltH:id<H.n:=by omega
  have hspl:∀zs':List DV,zs'.length=xs.length-k→cF (List.map bQ zs) zs' k=kept.map bQ++zs':=fun zs' hz=>by
   unfold cF
   rw[←List.map_take,SC,List.drop_eq_nil_of_le (by simp;omega),List.append_nil]
  have Vi:(List.map bQ kept++List.replicate (xs.length-k) Vm).length=xs.length:=by simp;omega
  rw[aG Lv.eq_1]
  simp[Wg,h0,h5,h6,hnl,hg,NW,hkl',yW,vM,hx.wf,hltH,hspl]
  rw[show(DV.agg [.int .i64 0,.int .i64 0,.int .i64 0,.int .i64 0,.nsl,.int .i64 0,.bool false])=Vm from rfl]
  have hkl2:k≤kept.length+(xs.length-k):=by omega
  have hkl3:xs.length≤kept.length+(xs.length-k):=by omega
  simp[hkl2,hkl3]
  refine⟨_,_,⟨rfl,rfl⟩,.arr id (List.replicate (xs.length-k) Vm) none (by simp;omega) ?_ ?_ sT,?_,?_⟩
  ·rw[cO hx.wf hltH,if_pos rfl]
  ·show H.lim≤id
   rw[hx.lim];exact bH
  ·exact hx.set sT hltH
  ·exact hK.set hx.wf Fu hltH
 | cons e rest ih =>
  intro j k kept zs f H hd hkj OE NW SC hdj Vl hg h0 h1 h5 h6 hx hK hn
  obtain⟨hi,he,pE⟩:=jF hd
  have hltH:id<H.n:=by omega
  have hnid:¬id=H.n:=by omega
  have hlimH:H.lim≤H.n:=by rw[hx.lim];omega
  have hlimI:H.lim≤id:=by rw[hx.lim];exact bH
  obtain⟨hjy,hyj,hdj'⟩:=jF hdj
  have hyj':(zs.map bQ)[j]?=some (bQ e):=by rw[List.getElem?_map,List.getElem?_eq_getElem hjy,hyj];rfl
  have Kr:=BN e (by rw[←he];exact List.getElem_mem hi)
  simp only[bQ]at Kr
  have Hh:=hx.push (o:=.arr 58 7 [bQ e] (some 1))
  have hgx1:=Kr _ Hh
  simp only[bQ,List.cons_append,List.nil_append]at hgx1
  simp only[bQ,List.getElem?_map]at hyj'
  rw[aG Lv.eq_1]
  have Y2:∀q:Nat,q<xs.length→aR 7 (.sl id 7 0 xs.length) (.int .i64 (q:Int))=some (.ptr id 7 q 0):=fun q hq=>by simp[aR,asI,hq]
  have hkn':k<zs.length:=by omega
  have NX:(zs.map bQ)[k]?=some (bQ zs[k]):=by rw[List.getElem?_map,List.getElem?_eq_getElem hkn'];rfl
  simp only[bQ,List.getElem?_map]at NX
  cases hp:p e with
  | true =>
   rw[hp]at hgx1
   simp[h0,h1,h5,h6,hi,Y2,hg,hyj',hlimH,hgx1]
   rw[bC (by omega) (by omega)]
   have hf:(e::rest).filter (fun x=>!p x)=rest.filter (fun x=>!p x):=by simp[hp]
   rw[hf]
   rw[←List.map_append]
   refine ih (j+1) k kept zs _ (H.push (.arr 58 7 [bQ e] (some 1))) pE (by omega) OE NW SC hdj' Vl ?_ ?_ ?_ ?_ ?_ Hh hK.push (by show h.n≤H.n+1;omega)
   ·rw[cJ,if_neg hnid];exact hg
   all_goals simp[h0,h1,h5]
  | false =>
   rw[hp]at hgx1
   have Vh:IntKind.i64.wrap ((k:Int)+1)=(k:Int)+1:=bC (by omega) (by omega)
   have hw2:IntKind.i64.wrap ((j:Int)+1)=(j:Int)+1:=bC (by omega) (by omega)
   have hf:(e::rest).filter (fun x=>!p x)=e::rest.filter (fun x=>!p x):=by simp[hp]
   rw[hf,List.append_cons]
   generalize sX:kept++[e]=kept'
   simp[h0,h1,h5,h6,hi,Y2,hg,hyj',hlimH,hgx1,Vl,NX,hlimI,hnid,Vh,hw2,turn,hltH]
   rw[←List.map_append]
   have wA:(List.map bQ zs).set k (DV.agg [.int .i64 e.tree.bJ,.int .i64 e.tree.seq,.int .i64 e.sub.bJ,.int .i64 e.sub.seq,fG e.pred,.int .i64 e.lG,.bool e.up])=(zs.set k e).map bQ:=by rw[List.map_set];rfl
   rw[wA]
   refine ih (j+1) (k+1) kept' (zs.set k e) _ ((H.set id (.arr 58 7 ((zs.set k e).map bQ) none)).push (.arr 58 7 [bQ e] (some 1))) pE (by omega) (by rw[←sX];simp[OE]) (by simp[NW]) ?_ ?_ (by omega) ?_ ?_ ?_ ?_ ?_ ((hx.set sT hltH).push) ((hK.set hx.wf Fu hltH).push) (by show h.n≤H.n+1;omega)
   ·rw[←sX,List.take_succ_eq_append_getElem (by simp;omega),List.take_set_of_le (by omega),SC];simp
   ·rw[List.drop_set_of_lt (by omega)];exact hdj'
   ·rw[cJ,if_neg (by exact hnid),cO hx.wf hltH,if_pos rfl]
   all_goals simp[h0,h1]
theorem X5{α:Type}{p:α→Bool}{xs:List α}{i:Nat}(h:xs.findIdx? p=some i):i<xs.length∧(xs.filter fun x=>!p x)=xs.take i++(xs.drop (i+1)).filter fun x=>!p x:=by
 obtain⟨hi,hp,hq⟩:=List.findIdx?_eq_some_iff_getElem.1 h
 refine⟨hi,?_⟩
 have h1:(xs.take i).filter (fun x=>!p x)=xs.take i:=by
  rw[List.filter_eq_self]
  intro a ha
  obtain⟨j,hj,rfl⟩:=List.mem_iff_getElem.1 ha
  rw[List.length_take]at hj
  have:=hq j (by omega)
  simpa using this
 have h2:(xs.drop i).filter (fun x=>!p x)=(xs.drop (i+1)).filter (fun x=>!p x):=by
  rw[List.drop_eq_getElem_cons hi,List.filter_cons,hp];simp
 calc xs.filter (fun x=>!p x)=(xs.take i++xs.drop i).filter (fun x=>!p x):=by rw[List.take_append_drop]
  _=_:=by rw[List.filter_append,h1,h2]
theorem GL{α:Type}{p:α→Bool}{xs:List α}(h:xs.findIdx? p=none):(xs.filter fun x=>!p x)=xs:=by
 rw[List.findIdx?_eq_none_iff]at h
 rw[List.filter_eq_self]
 intro a ha
 simp[h a ha]
theorem XR(lo:Nat)(h:aA)(v:DV)(xs:List bL)(g:Nat)(cap fA:List DV)(p:bL→Bool)(ho:Own lo h v 58 7 (xs.map bQ))(hl:xs.length≤1000000)(wf:WF h)(eN:lo≤h.n)
  (hr:resolve true h 200 (.func g cap)=some (.func g fA))
  (hp1:∀x∈xs,∀h',fc D g ([bQ x]++fA) h'=some (.bool (p x),h'))
  (BN:∀x∈xs,∀h',Ext lo h h'→fc D g ([bQ x]++cap) h'=some (.bool (p x),h')) :
  ∃ v' h',fc D 136 [v,.func g cap] h=some (v',h')∧OwnR lo h' v' 58 7 ((xs.filter fun x=>!p x).map bQ)∧Ext lo h h'∧jH 58 h h':=by
 have wP:=fun t=>XP t xs g fA p hp1 hl
 have LO:=ho.resolve (n:=200) true (fun y _=>(fK y).1) (by decide)
 rw[ZE,aM _ _ _ _ (by simp[P5])]
 cases hf:xs.findIdx? p with
 | none =>
  rw[hf]at wP
  simp[P5,WP,-En,hr,LO,wP,lL]
  refine⟨_,_,⟨rfl,rfl⟩,?_,.refl eN wf,.refl _ _⟩
  rw[GL hf]
  exact ho.toR
 | some i =>
  rw[hf]at wP
  obtain⟨hi,hsp⟩:=X5 hf
  have cS:¬((i:Int)=-1):=by omega
  have hw:IntKind.i64.wrap ((i:Int)+1)=(i:Int)+1:=bC (by omega) (by omega)
  cases ho with
  | nil hv hx =>
   have Kk:xs=[]:=List.map_eq_nil_iff.1 hx
   subst Kk
   simp at hi
  | arr id hv hg Hj sT =>
   subst hv
   have aZ:=aC hg
   simp only[List.length_map]at LO
   simp[P5,WP,-En,-Ju,hr,LO,wP,lL,cS,hw]
   rw[hsp]
   refine YU lo h xs id g cap p hl sT Hj aZ eN ⟨_,_,_,hg⟩ BN _ (i+1) i (xs.take i) xs _ h rfl (by omega) (by simp;omega) rfl rfl rfl hi hg ?_ ?_ ?_ ?_ (.refl eN wf) (.refl _ _) (Nat.le_refl _)<;>simp
end Go.Dm.Tc
/-
What functions of the program compute,part 1: how advertisements are ordered and found.
-/
namespace Go.Dm.Tc
theorem Wy(a:Int):pcF D Ad [.int .i64 a]=some (.bool false):=by
 unfold pcF
 rw[aM _ _ _ _ (by simp[Ad])]
 simp[Ad]
def cmpI(a b:Int):Int:=if a<b then -1 else if b<a then 1 else 0
theorem QU(a b:Int):pcF D tA [.int .i64 a,.int .i64 b]=some (.int .i64 (cmpI a b)):=by
 unfold pcF
 rw[aM _ _ _ _ (by simp[tA])]
 by_cases h1:a<b
 ·simp[tA,A9,Wy,h1,cmpI]
 ·by_cases h2:b<a
  ·simp[tA,A9,Wy,h1,h2,cmpI]
  ·simp[tA,A9,Wy,h1,h2,cmpI]
def orI(a b:Int):Int:=if a=0 then b else a
theorem QV(t:Bool)(a b:Int):pcF D Ae [.isl t 1 [.int .i64 a,.int .i64 b]]=some (.int .i64 (orI a b)):=by
 unfold pcF
 rw[aM _ _ _ _ (by simp[Ae])]
 simp[Ae]
 rw[aG rP.eq_1]
 by_cases h1:a=0
 ·simp[h1,orI,aR,asI]
  rw[aG rP.eq_1]
  by_cases h2:b=0
  ·simp[h2,aR,asI]
   rw[aG rP.eq_1]
   simp[Du]
  ·simp[h2,aR,asI]
 ·simp[h1,orI,aR,asI]
def dE(a b:ID):Int:=orI (cmpI a.bJ b.bJ) (cmpI a.seq b.seq)
theorem s76(a b c d:Int):pcF D t76 [.agg [.int .i64 a,.int .i64 b],.agg [.int .i64 c,.int .i64 d]]=some (.int .i64 (dE ⟨a,b⟩ ⟨c,d⟩)):=by
 unfold pcF
 rw[aM _ _ _ _ (by simp[t76])]
 simp[t76,SU,QU,SV,mkIsl,QV,dE]
def Ar(a b:ID):Bool:=decide (dE a b<0)
theorem s78(a b:Int)(p:dY)(q c d:Int):pcF D t78 [.agg [.int .i64 a,.int .i64 b,fG p,.int .i64 q],.agg [.int .i64 c,.int .i64 d]]=some (.int .i64 (dE ⟨a,b⟩ ⟨c,d⟩)):=by
 unfold pcF
 rw[aM _ _ _ _ (by simp[t78])]
 simp[t78,e76,s76]
def dO(l:List ID):Prop:=l.Pairwise fun a b=>dE a b<0
theorem gV{a b:ID}:dE a b<0↔a.bJ<b.bJ∨a.bJ=b.bJ∧a.seq<b.seq:=by
 unfold dE orI cmpI
 split<;>split<;>(try split)<;>(try split)<;>omega
theorem zR{a b:ID}:dE a b=0↔a=b:=by
 cases a;cases b
 simp only[ID.mk.injEq]
 unfold dE orI cmpI
 simp only
 split<;>split<;>(try split)<;>(try split)<;>omega
theorem Ck{a b c:ID}(h1:dE a b<0)(h2:dE b c<0):dE a c<0:=by
 rw[gV]at *;omega
theorem AL(a b:ID):dE a b<0∨a=b∨dE b a<0:=by
 rw[gV,gV]
 cases a;cases b
 simp only[ID.mk.injEq]
 omega
theorem oC{α:Type}{key:α→ID}{xs:List α}(h:dO (xs.map key))(x:ID):∀i j (hi:i<xs.length) (hj:j<xs.length),i≤j→dE (key xs[j]) x<0→dE (key xs[i]) x<0:=by
 intro i j hi hj IF aZ
 rcases Nat.lt_or_eq_of_le IF with hl|rfl
 ·have:=List.pairwise_iff_getElem.1 h i j (by simpa using hi) (by simpa using hj) hl
  simp only[List.getElem_map]at this
  exact Ck this aZ
 ·exact aZ
theorem s32(x0 x1 x2 x4 x5:DV)(t:Bool)(l:List ID)(c d:Int)(hr:dO l)(hl:l.length≤1000000) :
  pcF D t32 [.agg [x0,x1,x2,eL t 2 eID l,x4,x5],.agg [.int .i64 c,.int .i64 d]]=some (.tup [.int .i64 (dQ (fun a=>dE a ⟨c,d⟩) l),.bool (oN (fun a=>dE a ⟨c,d⟩) l)]):=by
 have hb:=s75 t l c d 76 [] (fun a=>dE a ⟨c,d⟩) (fun x _ h=>by simp[eID,e76,s76]) hl (by
  have:=oC (key:=fun a:ID=>a) (xs:=l) (by simpa using hr) ⟨c,d⟩
  exact this)
 unfold pcF
 rw[aM _ _ _ _ (by simp[t32])]
 simp[t32,e75,hb,aV]
theorem s33(x0 x1 x3 x4 x5:DV)(t:Bool)(l:List cP)(c d:Int)(hr:dO (l.map (·.id)))(hl:l.length≤1000000) :
  pcF D t33 [.agg [x0,x1,eL t 4 aH l,x3,x4,x5],.agg [.int .i64 c,.int .i64 d]]=some (.tup [.int .i64 (dQ (fun a=>dE a.id ⟨c,d⟩) l),.bool (oN (fun a=>dE a.id ⟨c,d⟩) l)]):=by
 have hb:=s77 t l c d 78 [] (fun a=>dE a.id ⟨c,d⟩) (fun x _ h=>by simp[aH,e78,s78]) hl (oC hr ⟨c,d⟩)
 unfold pcF
 rw[aM _ _ _ _ (by simp[t33])]
 simp[t33,e77,hb,aV]
end Go.Dm.Tc
/-
What functions of the program compute,part 2: a broker with rows of its own;an advertisement learned.
-/
namespace Go.Dm.Tc
theorem s31(h:aA)(me:Int)(t1 t2 t3 t4 t5:Bool)(bD:List Int)(adv:List cP)(seen:List ID)(ent:List bL)(own:List Vc)
  (l1:bD.length≤1000000) (l2:adv.length≤1000000) (l3:seen.length≤1000000) (l4:ent.length≤1000000) (l5:own.length≤1000000) (wf:WF h) (bH:h.lim≤h.n) :
  ∃ v1 v2 v3 v4 v5 h',fc D 31 [.agg [.int .i64 me,eL t1 1 bF bD,eL t2 4 aH adv,eL t3 2 eID seen,eL t4 7 bQ ent,eL t5 3 oV own]] h=some (.agg [.int .i64 me,v1,v2,v3,v4,v5],h') ∧
   Own h.n h' v1 3 1 (bD.map bF)∧Own h.n h' v2 37 4 (adv.map aH)∧Own h.n h' v3 24 2 (seen.map eID)∧Own h.n h' v4 58 7 (ent.map bQ)∧Own h.n h' v5 102 3 (own.map oV)∧Ext h.n h h':=by
 rw[e31,aM _ _ _ _ (by simp[t31])]
 have hm:max (h.n+1+1) h.lim=h.n+2:=by omega
 simp[t31,e36,hm]
 generalize hA:bP _ _ _ _ _=A
 obtain⟨v1,H1,rfl,o1,x1,y1⟩:=mQ (lo:=h.n+2) hA (fW ..) wf.push.push (by simp) (by simp) (by simp;omega) (by simp;omega) (by decide)
 have Kk:Ext h.n h ((h.push (.arr 31 6 [.agg [.int .i64 me,eL t1 1 bF bD,eL t2 4 aH adv,eL t3 2 eID seen,eL t4 7 bQ ent,eL t5 3 oV own]] (some 1))).push (.arr 31 6 [.agg [.int .i64 0,.nsl,.nsl,.nsl,.nsl,.nsl]] (some 1))):=(Ext.refl (Nat.le_refl _) wf).push.push
 have z1:=Kk.trans (x1.lower (by omega:h.n≤h.n+2))
 clear hA
 simp at x1 y1 z1 o1
 generalize hK1:wl H1 _=K1 at *
 have a1:=x1.get h.n (by omega)
 have b1:=x1.get (h.n+1) (by omega)
 have q1:=x1.lim
 have w1:=x1.wf
 have n1:=x1.le
 simp at a1 b1 q1
 simp[hK1,a1,q1,hm,e72]
 generalize hA:bP _ _ _ _ _=A
 obtain⟨v2,H2,rfl,o2,x2,y2⟩:=mQ (lo:=h.n+2) hA (fW ..) w1 n1 n1 (by omega) (by simp;omega) (by decide)
 rw[q1]at o2 x2 y2
 have z2:=z1.trans (x2.lower (by omega:h.n≤h.n+2))
 replace o1:=o1.ext y2
 clear hA
 generalize hK2:wl H2 _=K2 at *
 have a2:=x2.get h.n (by omega)
 have b2:=x2.get (h.n+1) (by omega)
 have q2:=x2.lim
 have w2:=x2.wf
 have n2:=x2.le
 rw[a1]at a2
 rw[b1]at b2
 rw[q1]at q2
 simp[hK2,a2,q1,q2,hm,e73]
 generalize hA:bP _ _ _ _ _=A
 obtain⟨v3,H3,rfl,o3,x3,y3⟩:=mQ (lo:=h.n+2) hA (fW ..) w2 n2 n2 (by omega) (by simp;omega) (by decide)
 rw[q2]at o3 x3 y3
 have z3:=z2.trans (x3.lower (by omega:h.n≤h.n+2))
 replace o1:=o1.ext y3
 replace o2:=o2.ext y3
 clear hA
 generalize hK3:wl H3 _=K3 at *
 have a3:=x3.get h.n (by omega)
 have b3:=x3.get (h.n+1) (by omega)
 have q3:=x3.lim
 have w3:=x3.wf
 have n3:=x3.le
 rw[a2]at a3
 rw[b2]at b3
 rw[q2]at q3
 simp[hK3,a3,q2,q3,hm,e74]
 generalize hA:bP _ _ _ _ _=A
 obtain⟨v4,H4,rfl,o4,x4,y4⟩:=mQ (lo:=h.n+2) hA (fW ..) w3 n3 n3 (by omega) (by simp;omega) (by decide)
 rw[q3]at o4 x4 y4
 have z4:=z3.trans (x4.lower (by omega:h.n≤h.n+2))
 replace o1:=o1.ext y4
 replace o2:=o2.ext y4
 replace o3:=o3.ext y4
 clear hA
 generalize hK4:wl H4 _=K4 at *
 have a4:=x4.get h.n (by omega)
 have b4:=x4.get (h.n+1) (by omega)
 have q4:=x4.lim
 have w4:=x4.wf
 have n4:=x4.le
 rw[a3]at a4
 rw[b3]at b4
 rw[q3]at q4
 simp[hK4,a4,q3,q4,hm,e44]
 generalize hA:bP _ _ _ _ _=A
 obtain⟨v5,K5,rfl,o5,x5,y5⟩:=vQ (lo:=h.n+2) (fW ..) w4 n4 (by omega) (by simp;omega) (by decide) hA
 have z5:=z4.trans (x5.lower (by omega:h.n≤h.n+2))
 replace o1:=o1.ext y5
 replace o2:=o2.ext y5
 replace o3:=o3.ext y5
 replace o4:=o4.ext y5
 clear hA
 have a5:=x5.get h.n (by omega)
 have b5:=x5.get (h.n+1) (by omega)
 have q5:=x5.lim
 have w5:=x5.wf
 have n5:=x5.le
 rw[a4]at a5
 rw[b4]at b5
 rw[q4]at q5
 have c5:h.n<K5.n:=by omega
 have d5:h.n+1<K5.n:=by omega
 have f5:h.lim≤h.n+1:=by omega
 simp[a5,b5,q5,w5,c5,d5,f5,bH,o1.aO,o2.aO,o3.aO,o4.aO,o5.aO,o1.aF,o2.aF,o3.aF,o4.aF,o5.aF,turn]
 refine⟨v1,v2,v3,v4,v5,_,⟨⟨rfl,rfl,rfl,rfl,rfl⟩,rfl⟩,?_,?_,?_,?_,?_,?_⟩
 ·exact((o1.aS w5 (by omega) c5).aS w5.set (by omega) d5).lower (by omega)
 ·exact((o2.aS w5 (by omega) c5).aS w5.set (by omega) d5).lower (by omega)
 ·exact((o3.aS w5 (by omega) c5).aS w5.set (by omega) d5).lower (by omega)
 ·exact((o4.aS w5 (by omega) c5).aS w5.set (by omega) d5).lower (by omega)
 ·exact((o5.aS w5 (by omega) c5).aS w5.set (by omega) d5).lower (by omega)
 ·exact(z5.set (by omega) c5).set (by omega) d5
end Go.Dm.Tc
/-
What functions of the program compute,part 3: an advertisement learned,found.
-/
namespace Go.Dm.Tc
section
variable {α:Type} (key:α→ID)
def sS(a:α)(l:List α):List α:=l.take (dQ (fun b=>dE (key b) (key a)) l)++a::l.drop (dQ (fun b=>dE (key b) (key a)) l)
theorem Ej{l:List α}(h:dO (l.map key))(x:ID):(∀i (hi:i<l.length),i<dQ (fun b=>dE (key b) x) l→dE (key l[i]) x<0)∧(∀i (hi:i<l.length),dQ (fun b=>dE (key b) x) l≤i→¬dE (key l[i]) x<0):=by
 constructor
 ·intro i hi aZ
  have:=List.not_of_lt_findIdx (p:=fun b=>!decide (dE (key b) x<0)) aZ
  simpa using this
 ·intro i hi cD hc
  have hk:dQ (fun b=>dE (key b) x) l<l.length:=Nat.lt_of_le_of_lt cD hi
  have h1:¬dE (key l[dQ (fun b=>dE (key b) x) l]) x<0:=by
   have:=List.findIdx_getElem (p:=fun b=>!decide (dE (key b) x<0)) (w:=hk)
   unfold dQ
   simpa using this
  exact h1 (oC h x _ _ hk hi cD hc)
theorem Fv{l:List α}(h:dO (l.map key))(x:ID):match l.find? (fun b=>key b=x)with
  | some a=>oN (fun b=>dE (key b) x) l=true∧l[dQ (fun b=>dE (key b) x) l]?=some a
  | none=>oN (fun b=>dE (key b) x) l=false:=by
 obtain⟨r1,r2⟩:=Ej key h x
 have Fo:∀i j (hi:i<l.length) (hj:j<l.length),key l[i]=x→key l[j]=x→i=j:=by
  intro i j hi hj e1 e2
  rcases Nat.lt_trichotomy i j with aZ|he|aZ
  ·have:=List.pairwise_iff_getElem.1 h i j (by simpa using hi) (by simpa using hj) aZ
   simp only[List.getElem_map,e1,e2]at this
   rw[gV]at this;omega
  ·exact he
  ·have:=List.pairwise_iff_getElem.1 h j i (by simpa using hj) (by simpa using hi) aZ
   simp only[List.getElem_map,e1,e2]at this
   rw[gV]at this;omega
 cases hf:l.find? (fun b=>key b=x)with
 | some a =>
  have hax:key a=x:=by simpa using List.find?_some hf
  obtain⟨i,hi,Y2⟩:=List.mem_iff_getElem.1 (List.mem_of_find?_eq_some hf)
  have hk:dQ (fun b=>dE (key b) x) l=i:=by
   refine As (Nat.le_of_lt hi) (fun q hq=>?_) (fun hq=>?_)
   ·have:=List.pairwise_iff_getElem.1 h q i (by simp;omega) (by simpa using hi) hq
    simp only[List.getElem_map,Y2,hax]at this
    exact this
   ·rw[Y2,hax,gV];omega
  have SI:l[dQ (fun b=>dE (key b) x) l]?=some a:=by rw[hk,List.getElem?_eq_getElem hi,Y2]
  refine⟨?_,SI⟩
  unfold oN
  rw[SI]
  simp only[hax]
  simp[zR]
 | none =>
  unfold oN
  cases hg:l[dQ (fun b=>dE (key b) x) l]? with
  | none=>rfl
  | some a =>
   have:key a≠x:=by
    have:=List.find?_eq_none.1 hf a (List.mem_of_getElem? hg)
    simpa using this
   simp only[decide_eq_false_iff_not]
   rw[zR];exact this
end
theorem MA{l:List ID}(hr:dO l)(x:ID):oN (fun b=>dE b x) l=decide (x∈l):=by
 have hf:=Fv (fun a:ID=>a) (by simpa using hr) x
 cases hq:l.find? (fun a=>a=x)with
 | none =>
  rw[hq]at hf
  simp only at hf
  rw[hf]
  have:=List.find?_eq_none.1 hq
  symm
  simp only[decide_eq_false_iff_not]
  intro hm
  exact this x hm (by simp)
 | some a =>
  rw[hq]at hf
  rw[hf.1]
  have h1:a=x:=by simpa using List.find?_some hq
  have h2:=List.mem_of_find?_eq_some hq
  rw[h1]at h2
  simp[h2]
def mR(b:aL)(x:ID):Option cP:=b.aW.find? fun a=>a.id=x
def vU:cP:=⟨⟨0,0⟩,[],0⟩
def Y5{α:Type}:Option α→Bool|some _=>true|none=>false
theorem s66(x0 x1 x3 x4 x5:DV)(t:Bool)(l:List cP)(c d:Int)(hr:dO (l.map (·.id)))(hl:l.length≤1000000)(f0:kG 20 x0)(f1:kG 20 x1)(f3:kG 20 x3)(f4:kG 20 x4)(f5:kG 20 x5) :
  pcF D t66 [.agg [x0,x1,eL t 4 aH l,x3,x4,x5],.agg [.int .i64 c,.int .i64 d]]=some (.tup [aH ((l.find? fun a=>a.id=⟨c,d⟩).getD vU),.bool (Y5 (l.find? fun a=>a.id=⟨c,d⟩))]):=by
 have hf:=Fv (fun a:cP=>a.id) hr ⟨c,d⟩
 unfold pcF
 rw[aM _ _ _ _ (by simp[t66])]
 have g0:∀h,resolve true h 199 x0=some x0:=fun h=>f0 _ _ _ (by decide)
 have g1:∀h,resolve true h 199 x1=some x1:=fun h=>f1 _ _ _ (by decide)
 have g3:∀h,resolve true h 199 x3=some x3:=fun h=>f3 _ _ _ (by decide)
 have g4:∀h,resolve true h 199 x4=some x4:=fun h=>f4 _ _ _ (by decide)
 have g5:∀h,resolve true h 199 x5=some x5:=fun h=>f5 _ _ _ (by decide)
 cases hq:l.find? (fun a=>a.id=⟨c,d⟩)with
 | none =>
  rw[hq]at hf
  simp at hf
  simp[t66,e33,s33,g0,g1,g3,g4,g5,hr,hl,hf,hq,aH,vU,Y5,aV]
  rfl
 | some a =>
  rw[hq]at hf
  simp at hf
  simp[t66,e33,s33,g0,g1,g3,g4,g5,hr,hl,hf.1,hf.2,hq,aH,Y5,aV]
structure zS(b:aL):Prop where
 bD:b.bD.length≤100000
 adv:b.aW.length≤100000
 seen:b.seen.length≤100000
 ent:b.entries.length≤100000
 own:b.jZ.length≤100000
def dG(b:aL)(a:cP):aL×Bool :=
 if a.id∈b.seen then(b,false)else({b with aW:=sS (fun a=>a.id) a b.aW,seen:=sS (fun x=>x) a.id b.seen},true)
theorem q31{h:aA}{A:Option (DV×aA)}{me:Int}{t1 t2 t3 t4 t5:Bool}{bD:List Int}{adv:List cP}{seen:List ID}{ent:List bL}{own:List Vc}(hA:fc D 31 [.agg [.int .i64 me,eL t1 1 bF bD,eL t2 4 aH adv,eL t3 2 eID seen,eL t4 7 bQ ent,eL t5 3 oV own]] h=A)
  (hs:zS ⟨me,bD,adv,seen,ent,own⟩) (wf:WF h) (bH:h.lim≤h.n) :
  ∃ v1 v2 v3 v4 v5 h',A=some (.agg [.int .i64 me,v1,v2,v3,v4,v5],h') ∧
   Own h.n h' v1 3 1 (bD.map bF)∧Own h.n h' v2 37 4 (adv.map aH)∧Own h.n h' v3 24 2 (seen.map eID)∧Own h.n h' v4 58 7 (ent.map bQ)∧Own h.n h' v5 102 3 (own.map oV)∧Ext h.n h h':=by
 subst hA
 obtain⟨z1,z2,z3,z4,z5⟩:=hs
 simp only at z1 z2 z3 z4 z5
 exact s31 h me t1 t2 t3 t4 t5 bD adv seen ent own (by omega) (by omega) (by omega) (by omega) (by omega) wf bH
theorem s6(t:iD)(b:aL)(c d:Int)(p:dY)(q:Int)(hs:zS b)(ra:dO (b.aW.map (·.id)))(rs:dO b.seen) :
  pcF D t6 [aX t b,.agg [.int .i64 c,.int .i64 d,fG p,.int .i64 q]]=some (.tup [aX .none (dG b ⟨⟨c,d⟩,p,q⟩).1,.bool (dG b ⟨⟨c,d⟩,p,q⟩).2]):=by
 obtain⟨me,bD,adv,seen,ent,own⟩:=b
 unfold pcF
 rw[aM _ _ _ _ (by simp[t6])]
 simp[t6,aX]
 generalize hA:fc D _ _ _=A
 obtain⟨v1,v2,v3,v4,v5,K,rfl,o1,o2,o3,o4,o5,x⟩:=q31 hA hs (by simp) (by simp)
 simp at o1 o2 o3 o4 o5 x
 clear hA
 have a0:=x.get 0 (by decide)
 have a1:=x.get 1 (by decide)
 have a2:=x.get 2 (by decide)
 have q0:=x.lim
 have w0:=x.wf
 have n0:=x.le
 simp at a0 a1 a2 q0
 have l0:0<K.n:=by omega
 have l2:2<K.n:=by omega
 have r1:∀o,resolve true (K.set 0 o) 199 v1=some (eL true 1 bF bD):=fun o=>(o1.aS w0 (by decide) l0).resolve true (fun y _=>(dD y).1) (by decide)
 have r2:∀o,resolve true (K.set 0 o) 199 v2=some (eL true 4 aH adv):=fun o=>(o2.aS w0 (by decide) l0).resolve true (fun y _=>(fI y).1) (by decide)
 have r3:∀o,resolve true (K.set 0 o) 199 v3=some (eL true 2 eID seen):=fun o=>(o3.aS w0 (by decide) l0).resolve true (fun y _=>(jO y).1) (by decide)
 have r4:∀o,resolve true (K.set 0 o) 199 v4=some (eL true 7 bQ ent):=fun o=>(o4.aS w0 (by decide) l0).resolve true (fun y _=>(fK y).1) (by decide)
 have r5:∀o,resolve true (K.set 0 o) 199 v5=some (eL true 3 oV own):=fun o=>(o5.aS w0 (by decide) l0).resolve true (fun y _=>(jA y).1) (by decide)
 have Vi:seen.length≤1000000:=by have:=hs.seen;simp only at this;omega
 have Y6:adv.length≤1000000:=by have:=hs.adv;simp only at this;omega
 simp only at ra rs
 have hh:=MA rs ⟨c,d⟩
 obtain⟨R,hR⟩:∃ R,R=DV.tup [aX .none (dG ⟨me,bD,adv,seen,ent,own⟩ ⟨⟨c,d⟩,p,q⟩).1,.bool (dG ⟨me,bD,adv,seen,ent,own⟩ ⟨⟨c,d⟩,p,q⟩).2]:=⟨_,rfl⟩
 simp only[aX]at hR
 rw[←hR]
 by_cases hm:(⟨c,d⟩:ID)∈seen
 ·have r1':∀o o',resolve false ((K.set 0 o).set 2 o') 198 v1=some (eL false 1 bF bD):=fun o o'=>((o1.aS w0 (by decide) l0).aS w0.set (by decide) l2).resolve false (fun y _=>(dD y).1) (by decide)
  have r2':∀o o',resolve false ((K.set 0 o).set 2 o') 198 v2=some (eL false 4 aH adv):=fun o o'=>((o2.aS w0 (by decide) l0).aS w0.set (by decide) l2).resolve false (fun y _=>(fI y).1) (by decide)
  have r3':∀o o',resolve false ((K.set 0 o).set 2 o') 198 v3=some (eL false 2 eID seen):=fun o o'=>((o3.aS w0 (by decide) l0).aS w0.set (by decide) l2).resolve false (fun y _=>(jO y).1) (by decide)
  have r4':∀o o',resolve false ((K.set 0 o).set 2 o') 198 v4=some (eL false 7 bQ ent):=fun o o'=>((o4.aS w0 (by decide) l0).aS w0.set (by decide) l2).resolve false (fun y _=>(fK y).1) (by decide)
  have r5':∀o o',resolve false ((K.set 0 o).set 2 o') 198 v5=some (eL false 3 oV own):=fun o o'=>((o5.aS w0 (by decide) l0).aS w0.set (by decide) l2).resolve false (fun y _=>(jA y).1) (by decide)
  simp[a0,a1,a2,q0,w0,l0,l2,e32,s32,r1,r2,r3,r4,r5,r1',r2',r3',r4',r5',rs,Vi,hh,hm,aV]
  simp[hR,dG,hm,iD.none]
 ·simp[a0,a1,a2,q0,w0,l0,l2,e32,s32,e33,s33,r1,r2,r3,r4,r5,rs,ra,Vi,Y6,hh,hm]
  generalize hA:fc D _ _ _=A
  obtain⟨v2',K2,rfl,p2,x2,k2⟩:=q34 hA 3 adv ⟨⟨c,d⟩,p,q⟩ (vety:=37) (c:=1) (o2.aS w0 (by decide) l0).push (by simp[aH]) (vJ _ _) Y6 (by simp[w0]) (by simp;omega) (by simp[q0])
  clear hA
  have b0:=x2.get 0 (by decide)
  have b1:=x2.get 1 (by decide)
  have b2:=x2.get 2 (by decide)
  have q2:=x2.lim
  have w2:=x2.wf
  have m2:=x2.le
  have z0:¬0=K.n:=by omega
  have z1:¬1=K.n:=by omega
  have z2:¬2=K.n:=by omega
  simp[a1,a2,w0,l0,q0,z0,z1,z2]at b0 b1 b2 q2
  have p1:=(((o1.aS w0 (by decide) l0).push).keep k2 x2.lim (by decide))
  have p3:=(((o3.aS w0 (by decide) l0).push).keep k2 x2.lim (by decide))
  have p4:=(((o4.aS w0 (by decide) l0).push).keep k2 x2.lim (by decide))
  have p5:=(((o5.aS w0 (by decide) l0).push).keep k2 x2.lim (by decide))
  have m0:0<K2.n:=by omega
  have m22:2<K2.n:=by omega
  simp[b0,b1,b2,q2,w2,m0,m22,p2.aO,p2.aF,turn]
  generalize hA:fc D _ _ _=A
  obtain⟨v3',K3,rfl,p3',x3,k3⟩:=q35 hA 3 seen ⟨c,d⟩ (vety:=24) (c:=1) (p3.aS w2 (by decide) m0).push (by simp[eID]) (vJ _ _) Vi (by simp[w2]) (by simp;omega) (by simp[q2])
  clear hA
  have c0:=x3.get 0 (by decide)
  have c1:=x3.get 1 (by decide)
  have c2:=x3.get 2 (by decide)
  have q3:=x3.lim
  have w3:=x3.wf
  have m3:=x3.le
  have y0:¬0=K2.n:=by omega
  have y1:¬1=K2.n:=by omega
  have y2:¬2=K2.n:=by omega
  simp[b1,b2,w2,m0,q2,y0,y1,y2]at c0 c1 c2 q3
  have m30:0<K3.n:=by omega
  have m32:2<K3.n:=by omega
  replace p1:=((p1.aS w2 (by decide) m0).push).keep k3 x3.lim (by decide)
  replace p2:=((p2.aS w2 (by decide) m0).push).keep k3 x3.lim (by decide)
  replace p4:=((p4.aS w2 (by decide) m0).push).keep k3 x3.lim (by decide)
  replace p5:=((p5.aS w2 (by decide) m0).push).keep k3 x3.lim (by decide)
  have r1':∀o o',resolve false ((K3.set 0 o).set 2 o') 198 v1=some (eL false 1 bF bD):=fun o o'=>((p1.aS w3 (by decide) m30).aS w3.set (by decide) m32).resolve false (fun y _=>(dD y).1) (by decide)
  have r2':=fun o o'=>((p2.aS (o:=o) w3 (by decide) m30).aS (o:=o') w3.set (by decide) m32).resolve (n:=198) false (fun y _=>(fI y).1) (by decide)
  have r3':=fun o o'=>((p3'.aS (o:=o) w3 (by decide) m30).aS (o:=o') w3.set (by decide) m32).resolve (n:=198) false (fun y _=>(jO y).1) (by decide)
  have r4':∀o o',resolve false ((K3.set 0 o).set 2 o') 198 v4=some (eL false 7 bQ ent):=fun o o'=>((p4.aS w3 (by decide) m30).aS w3.set (by decide) m32).resolve false (fun y _=>(fK y).1) (by decide)
  have r5':∀o o',resolve false ((K3.set 0 o).set 2 o') 198 v5=some (eL false 3 oV own):=fun o o'=>((p5.aS w3 (by decide) m30).aS w3.set (by decide) m32).resolve false (fun y _=>(jA y).1) (by decide)
  simp[c0,c1,c2,q3,w3,m30,m32,p3'.aO,p3'.aF,turn,r1',r2',r3',r4',r5',aV]
  simp[hR,dG,hm,iD.none,sS]
end Go.Dm.Tc
/-
What functions of the program compute,part 4: are two brokers the same?
-/
namespace Go.Dm.Tc
structure u6(b:aL):Prop where
 adv:∀x∈b.aW,x.pred.length≤1000000
 ent:∀x∈b.entries,x.pred.length≤1000000
 own:∀x∈b.jZ,x.pred.length≤1000000
end Go.Dm.Tc
/-
What functions of the program compute,part 5: the statements' own comparisons of brokers.
-/
namespace Go.Dm.Tc
end Go.Dm.Tc
/-
What functions of the statements' own packages compute: numbers brought into bounds;predicates Cr of numbers;a broker copied.
-/
namespace Go.Dm.Tc
def cY(n lo hi:Int):Int:=if n.tmod (hi-lo+1)<0 then lo+(n.tmod (hi-lo+1)+hi-lo+1)else lo+n.tmod (hi-lo+1)
theorem s8(n lo hi:Int)(h:lo≤hi)(eN:-1000000000≤lo)(Oe:hi≤1000000000):pcF D t8 [.int .i64 n,.int .i64 lo,.int .i64 hi]=some (.int .i64 (cY n lo hi)):=by
 unfold pcF
 rw[aM _ _ _ _ (by simp[t8])]
 have h1:0<hi-lo+1:=by omega
 have h2:=Int.tmod_lt_of_pos n h1
 have h3:-(hi-lo+1)<n.tmod (hi-lo+1):=by
  have:=Int.lt_tmod_of_pos n h1
  omega
 have w1:IntKind.i64.wrap (hi-lo)=hi-lo:=bC (by omega) (by omega)
 have w2:IntKind.i64.wrap (hi-lo+1)=hi-lo+1:=bC (by omega) (by omega)
 have cS:hi-lo+1≠0:=by omega
 have hr:bV .rem (.int .i64 n) (.int .i64 (hi-lo+1))=some (.int .i64 (n.tmod (hi-lo+1))):=by simp[bV,cS]
 by_cases Ob:n.tmod (hi-lo+1)<0
 ·have w3:IntKind.i64.wrap (n.tmod (hi-lo+1)+hi)=n.tmod (hi-lo+1)+hi:=bC (by omega) (by omega)
  have w4:IntKind.i64.wrap (n.tmod (hi-lo+1)+hi-lo)=n.tmod (hi-lo+1)+hi-lo:=bC (by omega) (by omega)
  have w5:IntKind.i64.wrap (n.tmod (hi-lo+1)+hi-lo+1)=n.tmod (hi-lo+1)+hi-lo+1:=bC (by omega) (by omega)
  have w6:IntKind.i64.wrap (lo+(n.tmod (hi-lo+1)+hi-lo+1))=lo+(n.tmod (hi-lo+1)+hi-lo+1):=bC (by omega) (by omega)
  simp[t8,w1,w2,hr,Ob,w3,w4,w5,w6,cY]
 ·have w6:IntKind.i64.wrap (lo+n.tmod (hi-lo+1))=lo+n.tmod (hi-lo+1):=bC (by omega) (by omega)
  simp[t8,w1,w2,hr,Ob,w6,cY]
def RF:List (List UInt8):=[[97],[98],[99],[100],[101],[102],[103]]
def PE:List (List UInt8):=[[],[120],[120,121],[120,121,122],[120,122],[121],[121,121]]
def pO(l:List Int)(i:Nat):Int:=if l.length=0 then 0 else l.getD (i % l.length) 0
theorem s41(t:Bool)(l:List Int)(i:Nat):pcF D t41 [eL t 1 bF l,.int .i64 i]=some (.int .i64 (pO l i)):=by
 unfold pcF
 rw[aM _ _ _ _ (by simp[t41])]
 cases l with
 | nil=>simp[t41,pO]
 | cons x l =>
  have cS:((l.length:Int)+1)≠0:=by omega
  have hr:bV .rem (.int .i64 (i:Int)) (.int .i64 ((l.length:Int)+1))=some (.int .i64 ((i % (l.length+1):Nat):Int)):=by
   simp only[bV,if_true,if_neg cS]
   congr 2
  have aZ:i % (l.length+1)<(x::l).length:=by simp;exact Nat.mod_lt _ (by omega)
  simp[t41,hr,-Int.natCast_emod,List.getElem?_eq_getElem aZ,bF,pO,cS]
def RN(name:List UInt8)(n:Int):Vg :=
 if cY n 0 3=0∨cY n 0 3=1 then⟨name,1,cY (IntKind.i64.wrap (n.tdiv 4)) 0 9,cY (IntKind.i64.wrap (n.tdiv 4)) 0 9+cY (IntKind.i64.wrap (n.tdiv 40)) 0 9,[]⟩
 else⟨name,if cY n 0 3=2 then 2 else 3,0,0,PE.getD (cY (IntKind.i64.wrap (n.tdiv 4)) 0 6).toNat []⟩
end Go.Dm.Tc
/-
What functions of the statements' own packages compute: predicates Cr of numbers.
-/
namespace Go.Dm.Tc
def u5(n:Int):Int:=IntKind.i64.wrap ((BitVec.ofInt 64 n &&& BitVec.ofInt 64 1).toNat:Int)
def YB(n:Int):Bool:=decide (u5 n=1)
def Np(has vals:List Int):List (List UInt8)→Nat→dY→dY
 | [],_,mU=>mU
 | nm::r,i,mU=>if i<has.length∧YB (has.getD i 0)=true∧mU.length<5 then Np has vals r (i+1) (mU++[RN nm (pO vals i)])else Np has vals r (i+1) mU
def RM(has vals:List Int):dY:=Np has vals RF 0 []
end Go.Dm.Tc
/-
What functions of the statements' own packages compute: a broker copied;the reference's orders and searches.
-/
namespace Go.Dm.Tc
end Go.Dm.Tc
/-
What the reference's functions compute,part 1: orders,searches,an advertisement learned.
-/
namespace Go.Dm.Tc
end Go.Dm.Tc
/-
What the reference's functions compute,part 2: an advertisement learned.
-/
namespace Go.Dm.Tc
end Go.Dm.Tc
/-
What functions of the program compute,part 9: what may be a name,a constraint,a predicate.
-/
namespace Go.Dm.Tc
def LD(s:List UInt8):Bool:=s.all fun b=>decide (97≤b.toNat) && decide (b.toNat≤122)
def RG(s:List UInt8):Bool:=LD s && !decide (s=[]) && decide (s.length≤12)
def tH(c : Vg) : Bool :=
  RG c.name &&
    (if c.kind = 1 then decide (c.lo ≤ c.hi) && decide (c.text = [])
     else if c.kind = 3 then !decide (c.text.length = 12) && (decide (c.lo = 0) && decide (c.hi = 0) && decide (c.text.length ≤ 12))
     else if c.kind = 2 then decide (c.lo = 0) && decide (c.hi = 0) && decide (c.text.length ≤ 12)
     else false)
def Al:Option (List UInt8)→dY→Bool
 | _,[]=>true
 | prev,c::r=>tH c && (match prev with|none=>true|some n=>Go.Op.bytesLess n c.name) && Al (some c.name) r
def tG(p:dY):Bool:=Al none p && decide (p.length≤5)
def Pg(p:dY):Prop:=p.length≤1000000∧∀c∈p,c.name.length≤1000000
end Go.Dm.Tc
/-
What functions of the program compute,part 10: is a broker right?
-/
namespace Go.Dm.Tc
def tT(b:aL)(n:Int):Bool:=decide (n=-1) || b.bD.contains n
def WW(t1 s1 t2 s2:ID):Int:=orI (dE t1 t2) (dE s1 s2)
def ltE(x y:bL):Bool:=decide (WW x.tree x.sub y.tree y.sub<0)
theorem nS{α:Type}{key:α→ID}:∀{l:List α},dO (l.map key)→jX (fun x y=>Ar (key x) (key y)) l=true
 | [],_=>rfl
 | [a],_=>rfl
 | a::b::r,h=>by
  unfold dO at h
  rw[List.map_cons,List.pairwise_cons]at h
  simp only[jX,Bool.and_eq_true]
  refine⟨?_,nS (l:=b::r) h.2⟩
  have:=h.1 (key b) (by simp)
  simpa[Ar]using this
def kR(b:aL)(e:bL):Bool :=
 match b.aW.find? (fun a=>a.id=e.tree)with
 | none=>false
 | some a=>tT b e.lG && (!decide (e.lG=a.eG) || decide (a.eG=-1)) && !(e.up && decide (a.eG=-1)) && tG e.pred
end Go.Dm.Tc
/-
What functions of the program compute,part 11: is a broker right? All of it.
-/
namespace Go.Dm.Tc
structure u7(b:aL):Prop where
 adv:∀x∈b.aW,Pg x.pred
 ent:∀x∈b.entries,Pg x.pred
 own:∀x∈b.jZ,Pg x.pred
def tI(b:aL)(a:cP):Bool:=decide (a.id∈b.seen) && tT b a.eG && tG a.pred
def eX(t:iD)(b:aL):List DV:=[.int .i64 b.me,eL t.bD 1 bF b.bD,eL t.aW 4 aH b.aW,eL t.seen 2 eID b.seen,eL t.entries 7 bQ b.entries,eL t.jZ 3 oV b.jZ]
def Ak(b:aL):Bool :=
 jX (fun x y=>decide (x<y)) b.bD && jX (fun x y=>Ar x y) b.seen && jX (fun x y:cP=>Ar x.id y.id) b.aW && jX (fun x y:Vc=>Ar x.id y.id) b.jZ && jX ltE b.entries
def Mw(b:aL):Bool :=
 Ak b && !(b.aW.any fun a=>!tI b a) && !(b.entries.any fun e=>!kR b e) && !(b.jZ.any fun o=>!tG o.pred)
end Go.Dm.Tc
/-
What functions of the program compute,part 12: an advertisement forgotten.
-/
namespace Go.Dm.Tc
theorem VV(tg:Bool)(a b:Int)(p1 p2 p3 p4 p5:DV)(c d:Int):pcF D P4 [.agg [.int .i64 a,.int .i64 b,p1,p2,p3,p4,p5],.iptr tg [.int .i64 c,.int .i64 d] 0]=some (.bool (decide ((⟨a,b⟩:ID)=⟨c,d⟩))):=by
 unfold pcF
 rw[aM _ _ _ _ (by simp[P4])]
 by_cases h1:a=c<;>by_cases h2:b=d<;>simp[P4,h1,h2]
theorem GM(x:ID)(c d:Int):(decide (x.bJ=c) && decide (x.seq=d))=decide (x=⟨c,d⟩):=by
 cases x with|mk a b=>by_cases h1:a=c<;>by_cases h2:b=d<;>simp[h1,h2]
def uW{α:Type}(key:α→ID)(x:ID)(l:List α):List α:=l.filter fun a=>!decide (key a=x)
theorem Vo{α:Type}(key:α→ID){l:List α}(hr:dO (l.map key)){x:ID}{i:Nat}{a:α}(hi:l[i]?=some a)(ha:key a=x):l.take i++l.drop (i+1)=uW key x l:=by
 have aZ:i<l.length:=by
  by_cases h:i<l.length
  ·exact h
  ·rw[List.getElem?_eq_none (by omega)]at hi;cases hi
 have Y2:l[i]=a:=by rw[List.getElem?_eq_getElem aZ]at hi;exact Option.some.inj hi
 have cS:∀j (hj:j<l.length),j≠i→key l[j]≠x:=by
  intro j hj hji e
  rcases Nat.lt_or_gt_of_ne hji with h|h
  ·have:=List.pairwise_iff_getElem.1 hr j i (by simpa using hj) (by simpa using aZ) h
   simp only[List.getElem_map,Y2,ha,e]at this
   rw[gV]at this;omega
  ·have:=List.pairwise_iff_getElem.1 hr i j (by simpa using aZ) (by simpa using hj) h
   simp only[List.getElem_map,Y2,ha,e]at this
   rw[gV]at this;omega
 have h1:(l.take i).filter (fun a=>!decide (key a=x))=l.take i:=by
  rw[List.filter_eq_self]
  intro y hy
  obtain⟨j,hj,rfl⟩:=List.mem_iff_getElem.1 hy
  rw[List.length_take]at hj
  have:=cS j (by omega) (by omega)
  simpa using this
 have h2:(l.drop (i+1)).filter (fun a=>!decide (key a=x))=l.drop (i+1):=by
  rw[List.filter_eq_self]
  intro y hy
  obtain⟨j,hj,rfl⟩:=List.mem_iff_getElem.1 hy
  rw[List.length_drop]at hj
  have:=cS (i+1+j) (by omega) (by omega)
  simpa using this
 have h3:(l.drop i).filter (fun a=>!decide (key a=x))=l.drop (i+1):=by
  rw[List.drop_eq_getElem_cons aZ,List.filter_cons,Y2,ha,h2];simp
 calc l.take i++l.drop (i+1)=(l.take i++l.drop i).filter (fun a=>!decide (key a=x)):=by rw[List.filter_append,h1,h3]
  _=_:=by rw[List.take_append_drop];rfl
def fJ(b:aL)(x:ID)(lG:Int):aL×Bool :=
 match b.aW.find? (fun a=>a.id=x)with
 | none=>(b,false)
 | some a=>if a.eG=lG then({b with aW:=uW (fun a=>a.id) x b.aW,entries:=uW (fun e=>e.tree) x b.entries},true)else(b,false)
set_option maxRecDepth 8000 in
theorem XU(t:iD)(b:aL)(c d q:Int)(hs:zS b)(ra:dO (b.aW.map (·.id))) :
  pcF D P8 [aX t b,.agg [.int .i64 c,.int .i64 d],.int .i64 q]=some (.tup [aX .none (fJ b ⟨c,d⟩ q).1,.bool (fJ b ⟨c,d⟩ q).2]):=by
 obtain⟨me,bD,adv,seen,ent,own⟩:=b
 obtain⟨R,hR⟩:∃ R,R=DV.tup [aX .none (fJ ⟨me,bD,adv,seen,ent,own⟩ ⟨c,d⟩ q).1,.bool (fJ ⟨me,bD,adv,seen,ent,own⟩ ⟨c,d⟩ q).2]:=⟨_,rfl⟩
 rw[←hR]
 unfold pcF
 rw[aM _ _ _ _ (by simp[P8])]
 simp[P8,aX]
 generalize hA:fc D _ _ _=A
 obtain⟨v1,v2,v3,v4,v5,K,rfl,o1,o2,o3,o4,o5,x⟩:=q31 hA hs (by simp) (by simp)
 simp at o1 o2 o3 o4 o5 x
 clear hA
 have a0:=x.get 0 (by decide)
 have a1:=x.get 1 (by decide)
 have a2:=x.get 2 (by decide)
 have q0:=x.lim
 have w0:=x.wf
 have n0:=x.le
 simp at a0 a1 a2 q0
 have l0:0<K.n:=by omega
 have l2:2<K.n:=by omega
 have r1:∀o,resolve true (K.set 0 o) 199 v1=some (eL true 1 bF bD):=fun o=>(o1.aS w0 (by decide) l0).resolve true (fun y _=>(dD y).1) (by decide)
 have r2:∀o,resolve true (K.set 0 o) 199 v2=some (eL true 4 aH adv):=fun o=>(o2.aS w0 (by decide) l0).resolve true (fun y _=>(fI y).1) (by decide)
 have r3:∀o,resolve true (K.set 0 o) 199 v3=some (eL true 2 eID seen):=fun o=>(o3.aS w0 (by decide) l0).resolve true (fun y _=>(jO y).1) (by decide)
 have r4:∀o,resolve true (K.set 0 o) 199 v4=some (eL true 7 bQ ent):=fun o=>(o4.aS w0 (by decide) l0).resolve true (fun y _=>(fK y).1) (by decide)
 have r5:∀o,resolve true (K.set 0 o) 199 v5=some (eL true 3 oV own):=fun o=>(o5.aS w0 (by decide) l0).resolve true (fun y _=>(jA y).1) (by decide)
 have r1':∀o o',resolve false ((K.set 0 o).set 2 o') 198 v1=some (eL false 1 bF bD):=fun o o'=>((o1.aS w0 (by decide) l0).aS w0.set (by decide) l2).resolve false (fun y _=>(dD y).1) (by decide)
 have r2':∀o o',resolve false ((K.set 0 o).set 2 o') 198 v2=some (eL false 4 aH adv):=fun o o'=>((o2.aS w0 (by decide) l0).aS w0.set (by decide) l2).resolve false (fun y _=>(fI y).1) (by decide)
 have r3':∀o o',resolve false ((K.set 0 o).set 2 o') 198 v3=some (eL false 2 eID seen):=fun o o'=>((o3.aS w0 (by decide) l0).aS w0.set (by decide) l2).resolve false (fun y _=>(jO y).1) (by decide)
 have r4':∀o o',resolve false ((K.set 0 o).set 2 o') 198 v4=some (eL false 7 bQ ent):=fun o o'=>((o4.aS w0 (by decide) l0).aS w0.set (by decide) l2).resolve false (fun y _=>(fK y).1) (by decide)
 have r5':∀o o',resolve false ((K.set 0 o).set 2 o') 198 v5=some (eL false 3 oV own):=fun o o'=>((o5.aS w0 (by decide) l0).aS w0.set (by decide) l2).resolve false (fun y _=>(jA y).1) (by decide)
 have Y6:adv.length≤1000000:=by have:=hs.adv;simp only at this;omega
 have nJ:ent.length≤1000000:=by have:=hs.ent;simp only at this;omega
 simp only at ra
 have hf:=Fv (fun a:cP=>a.id) ra ⟨c,d⟩
 cases hq:adv.find? (fun a=>a.id=⟨c,d⟩)with
 | none =>
  rw[hq]at hf
  simp only at hf
  simp[a0,a1,a2,q0,w0,l0,l2,e33,s33,r1,r2,r3,r4,r5,r1',r2',r3',r4',r5',ra,Y6,hf,aV]
  simp[hR,fJ,hq,aX,iD.none]
 | some a =>
  rw[hq]at hf
  simp only at hf
  obtain⟨hf1,hf2⟩:=hf
  have hax:a.id=⟨c,d⟩:=by simpa using List.find?_some hq
  obtain⟨i,hi⟩:∃ i,dQ (fun b:cP=>dE b.id ⟨c,d⟩) adv=i:=⟨_,rfl⟩
  have hilt:i<adv.length:=by
   by_cases h:i<adv.length
   ·exact h
   ·rw[hi,List.getElem?_eq_none (by omega)]at hf2;cases hf2
  rw[hi]at hf2
  obtain⟨id,sp,cap,hv2,hg2,Vj,MB,wP,Nu⟩:=o2.toR.index (i:=i) (x:=aH a) (by simp[hf2]) .i64
  have hid0:¬id=0:=by omega
  have hid2:¬id=2:=by omega
  simp only[aH]at Nu
  by_cases Ko:a.eG=q
  ·have hw:IntKind.i64.wrap ((i:Int)+1)=(i:Int)+1:=bC (by omega) (by omega)
   have hwo:=Vo (fun a:cP=>a.id) ra hf2 hax
   simp[a0,a1,a2,q0,w0,l0,l2,e33,s33,r1,r2,r3,r4,r5,ra,Y6,hf1,hi,wP,hg2,hid0,Nu,eq_true Ko,hw]
   generalize hH:K.set 0 _=H
   have wH:WF H:=by rw[←hH];exact w0.set
   have nH:H.n=K.n:=by rw[←hH];rfl
   have lH:H.lim=0:=by rw[←hH];exact q0
   have g0:H.get 0=some (.arr 31 6 [.agg [.int .i64 me,v1,v2,v3,v4,v5]] (some 1)):=by rw[←hH,cO w0 l0,if_pos rfl]
   have g1:H.get 1=some (.arr 24 2 [.agg [.int .i64 c,.int .i64 d]] (some 1)):=by rw[←hH,cO w0 l0,if_neg (by decide)];exact a1
   have g2:H.get 2=some (.arr 31 6 [.agg [.int .i64 0,.nsl,.nsl,.nsl,.nsl,.nsl]] (some 1)):=by rw[←hH,cO w0 l0,if_neg (by decide)];exact a2
   have p1:Own 3 H v1 3 1 (bD.map bF):=by rw[←hH];exact o1.aS w0 (by decide) l0
   have p2:Own 3 H v2 37 4 (adv.map aH):=by rw[←hH];exact o2.aS w0 (by decide) l0
   have p3:Own 3 H v3 24 2 (seen.map eID):=by rw[←hH];exact o3.aS w0 (by decide) l0
   have p4:Own 3 H v4 58 7 (ent.map bQ):=by rw[←hH];exact o4.aS w0 (by decide) l0
   have p5:Own 3 H v5 102 3 (own.map oV):=by rw[←hH];exact o5.aS w0 (by decide) l0
   clear hH r1 r2 r3 r4 r5 r1' r2' r3' r4' r5' wP Nu hg2 hid0 hid2 hv2 Vj MB
   obtain⟨v2',K2,hD,m2,x2,k2⟩:=XS 3 H v2 adv i p2 hilt Y6 wH (by omega)
   rw[hwo]at m2
   have b0:=x2.get 0 (by decide)
   have b1:=x2.get 1 (by decide)
   have b2:=x2.get 2 (by decide)
   have q2:=x2.lim
   have w2:=x2.wf
   have n2:=x2.le
   rw[g0]at b0
   rw[g1]at b1
   rw[g2]at b2
   rw[lH]at q2
   have MJ:0<K2.n:=by omega
   simp[hD,b0,b1,b2,q2,w2,MJ,m2.aO,m2.aF,turn]
   generalize hH':K2.set 0 _=H'
   have wH':WF H':=by rw[←hH'];exact w2.set
   have nH':H'.n=K2.n:=by rw[←hH'];rfl
   have lH':H'.lim=0:=by rw[←hH'];exact q2
   have g0':H'.get 0=some (.arr 31 6 [.agg [.int .i64 me,v1,v2',v3,v4,v5]] (some 1)):=by rw[←hH',cO w2 MJ,if_pos rfl]
   have g1':H'.get 1=some (.arr 24 2 [.agg [.int .i64 c,.int .i64 d]] (some 1)):=by rw[←hH',cO w2 MJ,if_neg (by decide)];exact b1
   have g2':H'.get 2=some (.arr 31 6 [.agg [.int .i64 0,.nsl,.nsl,.nsl,.nsl,.nsl]] (some 1)):=by rw[←hH',cO w2 MJ,if_neg (by decide)];exact b2
   replace p1:Own 3 H' v1 3 1 (bD.map bF):=by rw[←hH'];exact(p1.keep k2 x2.lim (by decide)).aS w2 (by decide) MJ
   replace m2:OwnR 3 H' v2' 37 4 ((uW (fun a=>a.id) ⟨c,d⟩ adv).map aH):=by rw[←hH'];exact m2.aS w2 (by decide) MJ
   replace p3:Own 3 H' v3 24 2 (seen.map eID):=by rw[←hH'];exact(p3.keep k2 x2.lim (by decide)).aS w2 (by decide) MJ
   replace p4:Own 3 H' v4 58 7 (ent.map bQ):=by rw[←hH'];exact(p4.keep k2 x2.lim (by decide)).aS w2 (by decide) MJ
   replace p5:Own 3 H' v5 102 3 (own.map oV):=by rw[←hH'];exact(p5.keep k2 x2.lim (by decide)).aS w2 (by decide) MJ
   clear hH' hD
   obtain⟨v4',K3,hD,m4,x3,k3⟩:=XR 3 H' v4 ent 137 [.ptr 1 2 0 0] [.iptr true [.int .i64 c,.int .i64 d] 0] (fun e=>decide (e.tree=⟨c,d⟩)) p4 nJ wH' (by omega)
    (by simp[g1'])
    (fun y _ h'=>by simp[bQ,WQ,VV,GM])
    (fun y _ h' hx=>by
     have:=(hx.get 1 (by decide)).trans g1'
     simp[bQ,WQ,VV,this,GM])
   have c0:=x3.get 0 (by decide)
   have c1:=x3.get 1 (by decide)
   have c2:=x3.get 2 (by decide)
   have q3:=x3.lim
   have w3:=x3.wf
   have n3:=x3.le
   rw[g0']at c0
   rw[g1']at c1
   rw[g2']at c2
   rw[lH']at q3
   have h30:0<K3.n:=by omega
   have h32:2<K3.n:=by omega
   replace p1:=p1.keep k3 x3.lim (by decide)
   replace m2:=m2.keep k3 x3.lim (by decide)
   replace p3:=p3.keep k3 x3.lim (by decide)
   replace p5:=p5.keep k3 x3.lim (by decide)
   have r1:∀o o',resolve false ((K3.set 0 o).set 2 o') 198 v1=some (eL false 1 bF bD):=fun o o'=>((p1.aS w3 (by decide) h30).aS w3.set (by decide) h32).resolve false (fun y _=>(dD y).1) (by decide)
   have r2:=fun o o'=>((m2.aS (o:=o) w3 (by decide) h30).aS (o:=o') w3.set (by decide) h32).resolve (n:=198) false (fun y _=>(fI y).1) (by decide)
   have r3:∀o o',resolve false ((K3.set 0 o).set 2 o') 198 v3=some (eL false 2 eID seen):=fun o o'=>((p3.aS w3 (by decide) h30).aS w3.set (by decide) h32).resolve false (fun y _=>(jO y).1) (by decide)
   have r4:=fun o o'=>((m4.aS (o:=o) w3 (by decide) h30).aS (o:=o') w3.set (by decide) h32).resolve (n:=198) false (fun y _=>(fK y).1) (by decide)
   have r5:∀o o',resolve false ((K3.set 0 o).set 2 o') 198 v5=some (eL false 3 oV own):=fun o o'=>((p5.aS w3 (by decide) h30).aS w3.set (by decide) h32).resolve false (fun y _=>(jA y).1) (by decide)
   simp[g0',lH',hD,c0,c2,q3,w3,h30,h32,m4.aO,m4.aF,turn,r1,r2,r3,r4,r5,aV]
   simp[hR,fJ,hq,Ko,aX,iD.none,uW]
  ·simp[a0,a1,a2,q0,w0,l0,l2,e33,s33,r1,r2,r3,r4,r5,r1',r2',r3',r4',r5',ra,Y6,hf1,hi,wP,hg2,hid0,Nu,Ko,aV]
   simp[hR,fJ,hq,Ko,aX,iD.none]
end Go.Dm.Tc
/-
What the reference's functions compute,part 3: an advertisement forgotten.
-/
namespace Go.Dm.Tc
end Go.Dm.Tc
/-
Calls that let go of rows,brought into form;closed runs.
-/
namespace Go.Dm.Tc
def M7:Option (DV×aA)→(aA→Option (List DV×aA))→Option (List DV×aA)
 | some (v,h),k=>match k h with|some (r,h')=>some (v::r,h')|none=>none
 | none,_=>none
def OO(v:DV):Option (List DV×aA)→Option (List DV×aA)
 | some (r,h)=>some (v::r,h)
 | none=>none
def XG:Option (List DV×aA)→Option (DV×aA)
 | some (r,h)=>some (.agg r,h)
 | none=>none
theorem xP(v:DV)(r:List DV)(h:aA):OO v (some (r,h))=some (v::r,h):=_root_.id rfl
theorem Bh(r:List DV)(h:aA):XG (some (r,h))=some (.agg r,h):=_root_.id rfl
theorem xQ(v:DV)(h:aA)(k:aA→Option (List DV×aA)):M7 (some (v,h)) k=OO v (k h):=by
 simp only[M7];cases k h<;>rfl
theorem Fg(f:aA→DV→Option (DV×aA))(h:aA):rZ f h []=some ([],h):=_root_.id rfl
theorem Aq(f:aA→DV→Option (DV×aA))(h:aA)(v:DV)(r:List DV):rZ f h (v::r)=M7 (f h v) (fun h1=>rZ f h1 r):=by
 simp only[rZ,M7]
 cases f h v with
 | none=>rfl
 | some p=>rfl
theorem Ol(h:aA)(cs:List DV):fP h (.agg cs)=XG (rZ gT h cs):=by
 simp only[fP];cases rZ gT h cs<;>rfl
theorem M2(h:aA)(k:IntKind)(n:Int):fP h (.int k n)=some (.int k n,h):=_root_.id rfl
theorem Zr{α:Type}(h:aA)(t:Bool)(sz:Nat)(e:α→DV)(xs:List α):fP h (eL t sz e xs)=some (eL t sz e xs,h):=by cases xs<;>rfl
theorem Tl(h:aA)(p:dY):fP h (fG p)=some (fG p,h):=Zr ..
theorem L9(h:aA)(s:List UInt8):fP h (.str s)=some (.str s,h):=_root_.id rfl
theorem Zq(h:aA)(k:IntKind)(n:Int):gT h (.int k n)=some (.int k n,h):=_root_.id rfl
theorem L8(h:aA)(b:Bool):gT h (.bool b)=some (.bool b,h):=_root_.id rfl
theorem GQ(h:aA):gT h .nsl=some (.nsl,h):=_root_.id rfl
theorem L7{α:Type}(h:aA)(t:Bool)(sz:Nat)(e:α→DV)(xs:List α):gT h (eL t sz e xs)=some (eL t sz e xs,h):=by cases xs<;>rfl
theorem L6(h:aA)(p:dY):gT h (fG p)=some (fG p,h):=L7 ..
theorem GR(h:aA)(t:Bool)(sz:Nat)(xs:List DV):gT h (.isl t sz xs)=some (.isl t sz xs,h):=_root_.id rfl
attribute [simp] xP Bh xQ Fg Aq Ol M2 Zr Tl L9 Zq L8 GQ L7 L6 GR B8
theorem nn1(n:Nat):(n=n+1)=False:=eq_false (by omega)
theorem mm1(n:Nat):(n+1=n)=False:=eq_false (by omega)
theorem nn2(n:Nat):(n=n+1+1)=False:=eq_false (by omega)
theorem mm2(n:Nat):(n+1+1=n)=False:=eq_false (by omega)
theorem nn3(n:Nat):(n=n+1+1+1)=False:=eq_false (by omega)
theorem mm3(n:Nat):(n+1+1+1=n)=False:=eq_false (by omega)
theorem nn4(n:Nat):(n=n+1+1+1+1)=False:=eq_false (by omega)
theorem mm4(n:Nat):(n+1+1+1+1=n)=False:=eq_false (by omega)
theorem nn5(n:Nat):(n=n+1+1+1+1+1)=False:=eq_false (by omega)
theorem mm5(n:Nat):(n+1+1+1+1+1=n)=False:=eq_false (by omega)
theorem nn6(n:Nat):(n=n+1+1+1+1+1+1)=False:=eq_false (by omega)
theorem mm6(n:Nat):(n+1+1+1+1+1+1=n)=False:=eq_false (by omega)
theorem nn7(n:Nat):(n=n+1+1+1+1+1+1+1)=False:=eq_false (by omega)
theorem mm7(n:Nat):(n+1+1+1+1+1+1+1=n)=False:=eq_false (by omega)
theorem nn8(n:Nat):(n=n+1+1+1+1+1+1+1+1)=False:=eq_false (by omega)
theorem mm8(n:Nat):(n+1+1+1+1+1+1+1+1=n)=False:=eq_false (by omega)
theorem nn9(n:Nat):(n=n+1+1+1+1+1+1+1+1+1)=False:=eq_false (by omega)
theorem mm9(n:Nat):(n+1+1+1+1+1+1+1+1+1=n)=False:=eq_false (by omega)
theorem YE(n:Nat):(n=n+1+1+1+1+1+1+1+1+1+1)=False:=eq_false (by omega)
theorem YH(n:Nat):(n+1+1+1+1+1+1+1+1+1+1=n)=False:=eq_false (by omega)
theorem YD(n:Nat):(n=n+1+1+1+1+1+1+1+1+1+1+1)=False:=eq_false (by omega)
theorem YG(n:Nat):(n+1+1+1+1+1+1+1+1+1+1+1=n)=False:=eq_false (by omega)
theorem YC(n:Nat):(n=n+1+1+1+1+1+1+1+1+1+1+1+1)=False:=eq_false (by omega)
theorem YF(n:Nat):(n+1+1+1+1+1+1+1+1+1+1+1+1=n)=False:=eq_false (by omega)
attribute [simp] nn1 mm1 nn2 mm2 nn3 mm3 nn4 mm4 nn5 mm5 nn6 mm6 nn7 mm7 nn8 mm8 nn9 mm9 YE YH YD YG YC YF
theorem QY{k n:Nat}{df:aK}{args ds:List DV}{d:DV}(he:∀args h,fc D k args h=rH D df h (args.mapM (resolve true h bT)))(hd:args.mapM (resolve true rB bT)=some ds)(hr:Un D n k args rB=some (d,rB)):pcF D df ds=some d:=by
 have h1:fc D k args rB=some (d,rB):=Dl.2 ⟨n,hr⟩
 rw[he,hd,sO]at h1
 cases h2:pcF D df ds with
 | none=>rw[h2]at h1;cases h1
 | some x=>rw[h2,xU]at h1;injection h1 with h1;injection h1 with h1;rw[h1]
end Go.Dm.Tc
/-
Plain laws,part 1: predicates Cr of numbers are right;rows that rise stay so.
-/
namespace Go.Dm.Tc
structure mD(p:dY):Prop where
 right:tG p=true
 names:Pg p
 len:p.length≤5
theorem oE{α:Type}(key:α→ID)(a:α){l:List α}(h:dO (l.map key))(hn:∀b∈l,key b≠key a):dO ((sS key a l).map key):=by
 obtain⟨r1,r2⟩:=Ej key h (key a)
 have hp:l.Pairwise fun x y=>dE (key x) (key y)<0:=by unfold dO at h;exact List.pairwise_map.1 h
 unfold dO sS
 rw[List.pairwise_map,List.pairwise_append,List.pairwise_cons]
 generalize hk:dQ (fun b=>dE (key b) (key a)) l=k at *
 have Fq:∀b∈l.take k,dE (key b) (key a)<0:=by
  intro b hb
  obtain⟨i,hi,rfl⟩:=List.mem_iff_getElem.1 hb
  rw[List.getElem_take]
  rw[List.length_take]at hi
  exact r1 i (by omega) (by omega)
 have uA:∀b∈l.drop k,dE (key a) (key b)<0:=by
  intro b hb
  obtain⟨i,hi,rfl⟩:=List.mem_iff_getElem.1 hb
  rw[List.length_drop]at hi
  rw[List.getElem_drop]
  have:=r2 (k+i) (by omega) (by omega)
  rcases AL (key l[k+i]) (key a)with h1|h1|h1
  ·exact absurd h1 this
  ·exact absurd h1 (hn _ (List.getElem_mem _))
  ·exact h1
 refine⟨hp.sublist (List.take_sublist ..),⟨fun b hb=>uA b hb,hp.sublist (List.drop_sublist ..)⟩,?_⟩
 intro x hx y hy
 rcases List.mem_cons.1 hy with rfl|hy
 ·exact Fq x hx
 ·exact Ck (Fq x hx) (uA y hy)
theorem pT{α:Type}(key:α→ID)(a:α)(l:List α)(b:α):b∈sS key a l↔b=a∨b∈l:=by
 unfold sS
 rw[List.mem_append,List.mem_cons]
 constructor
 ·rintro(h|h|h)
  ·exact .inr (List.mem_of_mem_take h)
  ·exact .inl h
  ·exact .inr (List.mem_of_mem_drop h)
 ·rintro(h|h)
  ·exact .inr (.inl h)
  ·rw[←List.take_append_drop (dQ (fun b=>dE (key b) (key a)) l) l,List.mem_append]at h
   exact h.elim .inl fun h=>.inr (.inr h)
theorem Df{α:Type}(key:α→ID)(a:α)(l:List α):(sS key a l).length=l.length+1:=by
 unfold sS
 rw[List.length_append,List.length_cons,List.length_take,List.length_drop]
 have:=vJ (fun b=>dE (key b) (key a)) l
 omega
end Go.Dm.Tc
/-
Plain laws,part 2: a broker that was told of advertisements alone;sets of IDs as maps.
-/
namespace Go.Dm.Tc
structure Jd(m0:Int)(nr:List Int)(b:aL)(n:Nat):Prop where
 me:b.me=m0
 bD:b.bD=nr
 ent:b.entries=[]
 own:b.jZ=[]
 ra:dO (b.aW.map (·.id))
 rs:dO b.seen
 la:b.aW.length≤n
 ls:b.seen.length≤n
 sub:∀a∈b.aW,a.id∈b.seen
 par:∀a∈b.aW,a.eG=-1∨a.eG∈nr
 prd:∀a∈b.aW,mD a.pred
section
variable {me:Int} {bD:List Int} {b:aL} {n:Nat}
theorem Jd.start(me:Int)(bD:List Int):Jd me bD ⟨me,bD,[],[],[],[]⟩ 0:=⟨rfl,rfl,rfl,rfl,List.Pairwise.nil,List.Pairwise.nil,Nat.le_refl _,Nat.le_refl _,fun a h=>(by cases h),fun a h=>(by cases h),fun a h=>(by cases h)⟩
theorem Jd.mono{m:Nat}(h:Jd me bD b n)(hm:n≤m):Jd me bD b m:={h with la:=Nat.le_trans h.la hm,ls:=Nat.le_trans h.ls hm}
theorem Jd.learn(h:Jd me bD b n)(a:cP)(hp:a.eG=-1∨a.eG∈bD)(hr:mD a.pred):Jd me bD (dG b a).1 (n+1):=by
 unfold dG
 split
 ·exact h.mono (Nat.le_succ n)
 ·rename_i hm
  refine⟨h.me,h.bD,h.ent,h.own,?_,?_,?_,?_,?_,?_,?_⟩
  ·exact oE (fun a:cP=>a.id) a h.ra (fun b hb e=>hm (by rw[←e];exact h.sub b hb))
  ·have:=oE (fun x:ID=>x) a.id (l:=b.seen) (by simpa using h.rs) (fun b hb e=>hm (by rw[←e];exact hb))
   simpa using this
  ·simp only[Df];exact Nat.succ_le_succ h.la
  ·simp only[Df];exact Nat.succ_le_succ h.ls
  ·intro x hx
   rw[pT]at hx ⊢
   rcases hx with rfl|hx
   ·exact .inl rfl
   ·exact .inr (h.sub x hx)
  ·intro x hx
   rw[pT]at hx
   rcases hx with rfl|hx
   ·exact hp
   ·exact h.par x hx
  ·intro x hx
   rw[pT]at hx
   rcases hx with rfl|hx
   ·exact hr
   ·exact h.prd x hx
theorem Jd.right(h:Jd me bD b n)(hn:jX (fun x y=>decide (x<y)) bD=true):Mw b=true:=by
 unfold Mw Ak
 rw[h.bD,h.ent,h.own,nS (key:=fun a:cP=>a.id) h.ra,show jX (fun x y=>Ar x y) b.seen=true from nS (key:=fun a:ID=>a) (by simpa using h.rs),hn]
 have:(b.aW.any fun a=>!tI b a)=false:=by
  rw[List.any_eq_false]
  intro a ha
  have h1:=h.sub a ha
  have h2:=h.par a ha
  have h3:=(h.prd a ha).right
  have h4:tT b a.eG=true:=by
   unfold tT
   rw[h.bD]
   rcases h2 with e|e
   ·simp[e]
   ·simp[e]
  simp[tI,h1,h3,h4]
 rw[this]
 rfl
end
def sV(ks:List ID):List (DV×DV):=ks.map fun x=>(.agg [.int .i64 x.bJ,.int .i64 x.seq],.bool true)
def xX(x:ID)(ks:List ID):List ID:=if x∈ks then ks else ks++[x]
theorem sJ(c d:Int)(y:ID):eY (.agg [1,1]) (.agg [.int .i64 c,.int .i64 d]) (.agg [.int .i64 y.bJ,.int .i64 y.seq])=some (decide ((⟨c,d⟩:ID)=y)):=by
 cases y with|mk a b=>by_cases h1:c=a<;>by_cases h2:d=b<;>simp[h1,h2]
theorem vL(c d:Int):∀{ks:List ID},(⟨c,d⟩:ID) ∉ ks→oK (.agg [1,1]) (.agg [.int .i64 c,.int .i64 d]) (sV ks)=some 0
 | [],_=>rfl
 | y::r,h=>by
  have h1:(⟨c,d⟩:ID)≠y:=fun e=>h (by rw[e];exact List.mem_cons_self ..)
  have ih:=vL c d (ks:=r) fun hm=>h (List.mem_cons_of_mem _ hm)
  simp only[sV,List.map_cons,oK]
  rw[sJ,show oK _ _ (r.map _)=some 0 from ih,decide_eq_false h1]
theorem Bb(c d:Int):∀{ks:List ID} (i:Nat),(⟨c,d⟩:ID) ∉ ks→eU (.agg [1,1]) (.agg [.int .i64 c,.int .i64 d]) (sV ks) i=some none
 | [],_,_=>rfl
 | y::r,i,h=>by
  have h1:(⟨c,d⟩:ID)≠y:=fun e=>h (by rw[e];exact List.mem_cons_self ..)
  have ih:=Bb c d (ks:=r) (i+1) fun hm=>h (List.mem_cons_of_mem _ hm)
  simp only[sV,List.map_cons,eU]
  rw[sJ,decide_eq_false h1]
  exact ih
theorem Av(c d:Int):∀{ks:List ID},ks.Nodup→(⟨c,d⟩:ID)∈ks→oK (.agg [1,1]) (.agg [.int .i64 c,.int .i64 d]) (sV ks)=some 1
 | [],_,h=>by cases h
 | y::r,hn,h=>by
  rw[List.nodup_cons]at hn
  simp only[sV,List.map_cons,oK]
  by_cases h1:(⟨c,d⟩:ID)=y
  ·rw[sJ,decide_eq_true h1,show oK _ _ (r.map _)=some 0 from vL c d (by rw[h1];exact hn.1)]
  ·rw[sJ,decide_eq_false h1,show oK _ _ (r.map _)=some 1 from Av c d hn.2 ((List.mem_cons.1 h).resolve_left h1)]
theorem Ba(c d:Int):∀{ks:List ID} (i:Nat),(⟨c,d⟩:ID)∈ks→∃ j,eU (.agg [1,1]) (.agg [.int .i64 c,.int .i64 d]) (sV ks) i=some (some (i+j,.bool true))∧ks[j]?=some ⟨c,d⟩
 | [],_,h=>by cases h
 | y::r,i,h=>by
  simp only[sV,List.map_cons,eU]
  by_cases h1:(⟨c,d⟩:ID)=y
  ·rw[sJ,decide_eq_true h1]
   exact⟨0,rfl,by rw[h1];rfl⟩
  ·obtain⟨j,k1,k2⟩:=Ba c d (i+1) ((List.mem_cons.1 h).resolve_left h1)
   rw[sJ,decide_eq_false h1]
   refine⟨j+1,?_,by simpa using k2⟩
   rw[show i+(j+1)=i+1+j by omega]
   exact k1
theorem xD{ks:List ID}(hn:ks.Nodup)(c d:Int):fO (.agg [1,1]) (.bool false) false (.agg [.int .i64 c,.int .i64 d]) (some (sV ks))=some (.bool (decide ((⟨c,d⟩:ID)∈ks))):=by
 have he:(eY (.agg [1,1]) (.agg [.int .i64 c,.int .i64 d]) (.agg [.int .i64 c,.int .i64 d])).isSome=true:=by simp
 simp only[fO,he,if_true]
 by_cases h:(⟨c,d⟩:ID)∈ks
 ·obtain⟨j,k1,_⟩:=Ba c d 0 h
  simp only[kZ,Av c d hn h,k1,decide_eq_true h]
  rfl
 ·simp only[kZ,vL c d h,Bb c d 0 h,decide_eq_false h]
  rfl
def GZ:Option DO→Option (List (DV×DV))
 | some (.mp es)=>some es
 | _=>none
theorem eI(h:aA)(id:Nat):uH h (.map id)=GZ (h.get id):=by
 simp only[uH,GZ]
 cases h.get id with
 | none=>rfl
 | some o=>cases o<;>rfl
theorem fT(es:List (DV×DV)):GZ (some (.mp es))=some es:=_root_.id rfl
def Hk(h:aA)(q:EqT)(id:Nat)(k x:DV):Option DO→Option aA
 | some (.mp es)=>if h.lim≤id∧(eY q k k).isSome=true then
   match kZ q k es with
   | some (some (i,_))=>some (h.set id (.mp (es.set i (k,x))))
   | some none=>some (h.set id (.mp (es++[(k,x)])))
   | none=>none
  else none
 | _=>none
theorem kI(h:aA)(q:EqT)(id:Nat)(k x:DV):yC h q (.map id) k x=Hk h q id k x (h.get id):=by
 simp only[yC,Hk]
 cases h.get id with
 | none=>rfl
 | some o=>cases o<;>rfl
theorem Qu{α:Type}:∀{l:List α} {i:Nat} {a:α},l[i]?=some a→l.set i a=l
 | [],i,a,h=>by simp at h
 | x::r,0,a,h=>by simp at h;simp[h]
 | x::r,i+1,a,h=>by simp at h;simp[Qu h]
theorem D7{h:aA}{id:Nat}{ks:List ID}(hn:ks.Nodup)(hl:h.lim≤id)(c d:Int):Hk h (.agg [1,1]) id (.agg [.int .i64 c,.int .i64 d]) (.bool true) (some (.mp (sV ks)))=some (h.set id (.mp (sV (xX ⟨c,d⟩ ks)))):=by
 have he:(eY (.agg [1,1]) (.agg [.int .i64 c,.int .i64 d]) (.agg [.int .i64 c,.int .i64 d])).isSome=true:=by simp
 simp only[Hk,he,hl,and_self,if_true]
 by_cases hm:(⟨c,d⟩:ID)∈ks
 ·obtain⟨j,k1,k2⟩:=Ba c d 0 hm
  simp only[kZ,Av c d hn hm,k1,Nat.zero_add,xX,if_pos hm]
  have hs:(sV ks).set j (DV.agg [.int .i64 c,.int .i64 d],DV.bool true)=sV ks:=Qu (by simp only[sV,List.getElem?_map,k2];rfl)
  simp only[Nat.le_refl,if_true]
  rw[hs]
 ·simp only[kZ,vL c d hm,Bb c d 0 hm,xX,if_neg hm]
  simp[sV]
theorem GD(h:aA)(id:Nat):lenV h 2 (.map id)=(GZ (h.get id)).map fun es=>.int .i64 es.length:=by
 simp only[lenV,GZ]
 cases h.get id with
 | none=>rfl
 | some o=>cases o<;>rfl
end Go.Dm.Tc
/-
What functions of the program compute,part 13: is a constraint wider than another one?
-/
namespace Go.Dm.Tc
def N3(s p:List UInt8):Bool:=decide (p.length≤s.length) && (s.take p.length == p)
def SE(c:Vg)(s:List UInt8):Bool:=if c.kind=2 then s == c.text else if c.kind=3 then N3 s c.text else false
def OT(c x:Vg):Bool :=
 if x.kind=1 then decide (c.kind=1) && decide (c.lo≤x.lo) && decide (x.hi≤c.hi)
 else if x.kind=3 then decide (c.kind=3) && N3 x.text c.text
 else if x.kind=2 then SE c x.text
 else false
end Go.Dm.Tc
/-
What functions of the program compute,part 14: does a predicate cover another one?
-/
namespace Go.Dm.Tc
def TL(p:dY):Prop:=p.Pairwise fun a b=>a.name≠b.name
def M6(a b:dY):Bool:=a.all fun c=>match b.find? (fun x=>decide (x.name=c.name))with
 | some x=>OT c x
 | none=>false
end Go.Dm.Tc
/-
What functions of the program compute,part 15: an entry's place;an entry found;a tree's entries.
-/
namespace Go.Dm.Tc
def kQ(tree sub:ID)(e:bL):Int:=if e.tree=tree∧e.sub=sub then 0 else if Ar e.tree tree=true∨(e.tree=tree∧Ar e.sub sub=true)then -1 else 1
theorem jP{a b:ID}:Ar a b=true↔a.bJ<b.bJ∨a.bJ=b.bJ∧a.seq<b.seq:=by
 unfold Ar;rw[decide_eq_true_iff,gV]
theorem ID.ext'{a b:ID}:a=b↔a.bJ=b.bJ∧a.seq=b.seq:=by cases a;cases b;simp
theorem Dc{tree sub:ID}{e:bL}:kQ tree sub e<0↔Ar e.tree tree=true∨(e.tree=tree∧Ar e.sub sub=true):=by
 unfold kQ
 split
 ·rename_i h
  rw[h.1,h.2,jP,jP]
  constructor
  ·intro q;omega
  ·rintro(q|⟨_,q⟩)<;>omega
 ·split
  ·rename_i h;exact⟨fun _=>h,fun _=>by decide⟩
  ·rename_i h;exact⟨fun q=>by omega,fun q=>absurd q h⟩
theorem yO{tree sub:ID}{e:bL}:kQ tree sub e=0↔e.tree=tree∧e.sub=sub:=by
 unfold kQ
 split
 ·rename_i h;exact⟨fun _=>h,fun _=>rfl⟩
 ·rename_i h
  split<;>exact⟨fun q=>by omega,fun q=>absurd q h⟩
theorem LB(a b:bL):ltE a b=true↔kQ b.tree b.sub a<0:=by
 rw[Dc,jP,jP]
 unfold ltE WW orI
 rw[decide_eq_true_iff]
 split
 ·rename_i h
  rw[zR]at h
  rw[gV,h]
  constructor
  ·intro q;exact .inr ⟨rfl,q⟩
  ·rintro(q|⟨_,q⟩)
   ·omega
   ·exact q
 ·rename_i h
  rw[zR]at h
  rw[gV]
  constructor
  ·intro q;exact .inl q
  ·rintro(q|⟨q,_⟩)
   ·exact q
   ·exact absurd q h
def jG(l:List bL):Prop:=l.Pairwise fun a b=>kQ b.tree b.sub a<0
theorem Eg{t s:ID}{a b:bL}(h1:kQ b.tree b.sub a<0)(h2:kQ t s b≤0):kQ t s a<0:=by
 rw[Dc,jP,jP]at *
 by_cases h0:kQ t s b=0
 ·rw[yO]at h0
  rw[h0.1,h0.2]at h1
  exact h1
 ·have h3:kQ t s b<0:=by omega
  rw[Dc,jP,jP]at h3
  rw[ID.ext']at *
  omega
theorem WJ{l:List bL}(h:jG l)(t s:ID):∀i j (hi:i<l.length) (hj:j<l.length),i≤j→kQ t s l[j]<0→kQ t s l[i]<0:=by
 intro i j hi hj IF aZ
 rcases Nat.lt_or_eq_of_le IF with hl|rfl
 ·exact Eg (List.pairwise_iff_getElem.1 h i j hi hj hl) (by omega)
 ·exact aZ
theorem Kb:∀{l:List bL},jG l→jX ltE l=true
 | [],_=>rfl
 | [a],_=>rfl
 | a::b::r,h=>by
  unfold jG at h
  rw[List.pairwise_cons]at h
  simp only[jX,Bool.and_eq_true]
  exact⟨(LB a b).2 (h.1 b (List.mem_cons_self ..)),Kb (l:=b::r) h.2⟩
def isE(tree sub:ID)(e:bL):Bool:=decide (e.tree=tree∧e.sub=sub)
end Go.Dm.Tc
/-
What functions of the program compute,part 16: an entry found;a tree's entries;is a predicate covered?
-/
namespace Go.Dm.Tc
def ofT(tree:ID)(l:List bL):List bL:=l.filter fun e=>decide (e.tree=tree)
def eJ(l:List bL)(tree:ID)(p:dY):Bool:=(ofT tree l).any fun e=>e.up && M6 e.pred p
end Go.Dm.Tc
/-
What functions of the program compute,part 17: is a broker tight?
-/
namespace Go.Dm.Tc
def gN(b:aL)(x:ID):Int:=((b.aW.find? fun a=>a.id=x).getD vU).eG
def CC(b:aL)(e:bL):Bool:=e.up || decide (gN b e.tree=-1) || eJ b.entries e.tree e.pred
def Vx(b:aL):Bool:=b.entries.all (CC b)
structure v6(b:aL):Prop where
 unl:∀e∈b.entries,TL e.pred
 len:∀e∈b.entries,e.pred.length≤1000000
end Go.Dm.Tc
/-
What the reference's functions compute,part 4: an entry's place;is a predicate covered?
-/
namespace Go.Dm.Tc
end Go.Dm.Tc
/-
What the reference's functions compute,part 5: does a predicate cover another one? is it covered?
-/
namespace Go.Dm.Tc
end Go.Dm.Tc
/-
Plain laws,part 3: names of right predicates are unlike;the two coverings are alike. The reference's Covered.
-/
namespace Go.Dm.Tc
theorem TO{a b:UInt8}:(decide (a<b))=decide (a.toNat<b.toNat):=by
 by_cases h:a<b
 ·rw[decide_eq_true h,decide_eq_true (UInt8.lt_iff_toNat_lt.1 h)]
 ·rw[decide_eq_false h,decide_eq_false (fun q=>h (UInt8.lt_iff_toNat_lt.2 q))]
theorem Ur:∀{a b c:List UInt8},Go.Op.bytesLess a b=true→Go.Op.bytesLess b c=true→Go.Op.bytesLess a c=true
 | _,[],_,h,_=>by cases ‹List UInt8›<;>simp[Go.Op.bytesLess]at h
 | _,_::_,[],_,h=>by simp[Go.Op.bytesLess]at h
 | [],_::_,_::_,_,_=>rfl
 | a::x,b::y,c::z,h1,h2=>by
  simp only[Go.Op.bytesLess,TO,Bool.or_eq_true,Bool.and_eq_true,decide_eq_true_iff,beq_iff_eq]at *
  rcases h1 with h1|⟨rfl,h1⟩
  ·rcases h2 with h2|⟨rfl,h2⟩
   ·exact .inl (by omega)
   ·exact .inl h1
  ·rcases h2 with h2|⟨rfl,h2⟩
   ·exact .inl h2
   ·exact .inr ⟨rfl,Ur h1 h2⟩
theorem Bx:∀{p:dY} {prev:Option (List UInt8)},Al prev p=true→∀c∈p,tH c=true
 | [],_,_,_,h=>by cases h
 | c::r,prev,h,d,hd=>by
  simp only[Al,Bool.and_eq_true]at h
  rcases List.mem_cons.1 hd with rfl|hd
  ·exact h.1.1
  ·exact Bx h.2 d hd
theorem mD.each{p:dY}(h:mD p):∀c∈p,tH c=true:=by
 have:=h.right
 unfold tG at this
 rw[Bool.and_eq_true]at this
 exact Bx this.1
theorem mD.nil:mD []:=⟨rfl,⟨by decide,fun c h=>by cases h⟩,by decide⟩
end Go.Dm.Tc
/-
What functions of the program compute,part 18: an entry added.
-/
namespace Go.Dm.Tc
def Nt(e:bL)(l:List bL):List bL:=l.take (dQ (kQ e.tree e.sub) l)++e::l.drop (dQ (kQ e.tree e.sub) l)
def Nr(b:aL)(e:bL):Bool :=
 match b.aW.find? (fun a=>a.id=e.tree)with
 | none=>false
 | some a=>!(b.entries.any (isE e.tree e.sub)) && !(decide (e.lG=a.eG) && !decide (a.eG=-1))
def Vt(b:aL)(e:bL):Bool:=!decide (gN b e.tree=-1) && !eJ b.entries e.tree e.pred
def uQ(b:aL)(e:bL):aL×Bool :=
 if Nr b e=true then({b with entries:=Nt {e with up:=Vt b e} b.entries},Vt b e)else(b,false)
end Go.Dm.Tc
/-
What the reference's functions compute,part 6: an entry added.
-/
namespace Go.Dm.Tc
end Go.Dm.Tc
/-
What the reference's functions compute,part 7: an entry added,all of it.
-/
namespace Go.Dm.Tc
end Go.Dm.Tc
/-
Two rows of one element type side by side: what is put behind one leaves the other one alone.
-/
namespace Go.Dm.Tc
def N7(v:DV)(k:Nat):Prop:=∀sz off len,v≠.sl k sz off len
theorem Pb{lo:Nat}{h:aA}{v:DV}{ety sz bytes:Nat}{xs ys:List DV}{A:Option (DV×aA)}(w:OwnR lo h v ety sz xs)(wf:WF h)(eN:lo≤h.n)(bH:h.lim≤h.n)(hA:bB h ety sz bytes v ys=A)
  (hb:(xs.length+ys.length)*bytes≤140737488355328) (yB:1≤bytes) :
  ∃ v' h',A=some (v',h')∧OwnR lo h' v' ety sz (xs++ys)∧Ext lo h h'∧(∀k,k<h.n→N7 v k→h'.get k=h.get k)∧(∀k,k<h.n→N7 v k→N7 v' k):=by
 have hm:xs.length+ys.length≤140737488355328:=Nat.le_trans (Nat.le_mul_of_pos_right _ yB) hb
 by_cases hy:ys=[]
 ·subst hy
  refine⟨v,h,?_,by simpa using w,.refl eN wf,fun _ _ _=>rfl,fun _ _ q=>q⟩
  rw[←hA]
  cases w with
  | nil hv hx=>subst hv;rfl
  | arr id sp cap hv hg _ _=>subst hv;rfl
 ·have Ij:ys.isEmpty=false:=by cases ys<;>simp_all
  have NW:0<ys.length:=List.length_pos_iff.2 hy
  cases w with
  | nil hv hx =>
   subst hv;subst hx
   simp only[List.length_nil,Nat.zero_add]at hb hm
   refine⟨.sl h.n sz 0 ys.length,h.push (.arr ety sz ys none),?_,.arr h.n [] none rfl (by simp[cJ]) (by exact bH) eN,(Ext.refl eN wf).push,fun k hk _=>by rw[cJ,if_neg (by omega)],fun k hk _ dK off' len' e=>by injection e;omega⟩
   rw[←hA]
   simp only[bB,Ij]
   rw[if_neg (by simp),if_pos ⟨hb,by omega⟩]
  | arr id sp cap hv hg hl hi =>
   subst hv
   have aZ:=aC hg
   have cS:∀k,N7 (.sl id sz 0 xs.length) k→k≠id:=fun k q e=>by subst e;exact q _ _ _ rfl
   by_cases Fw:xs.length+ys.length≤(xs++sp).length
   ·refine⟨.sl id sz 0 (xs.length+ys.length),h.set id (.arr ety sz (cF (xs++sp) ys xs.length) cap),?_,.arr id (sp.drop ys.length) cap (by simp) ?_ (by exact hl) hi,(Ext.refl eN wf).set hi aZ,fun k _ q=>by rw[cO wf aZ,if_neg (cS k q)],fun k _ q dK off' len' e=>by injection e with e1;exact cS k q e1.symm⟩
    ·rw[←hA];exact mC hg Fw hl hb yB hy
    ·rw[cO wf aZ,if_pos rfl]
     simp only[cF,List.take_left',List.append_assoc]
     congr 3
     rw[List.drop_append]
     simp
   ·cases cap with
    | none =>
     refine⟨.sl h.n sz 0 (xs.length+ys.length),(h.set id .dead).push (.arr ety sz (xs++ys) none),?_,.arr h.n [] none (by simp) ?_ (by exact bH) eN,((Ext.refl eN wf).set hi aZ).push,fun k hk q=>by rw[cJ,if_neg (by show ¬k=h.n;omega),cO wf aZ,if_neg (cS k q)],fun k hk _ dK off' len' e=>by injection e;omega⟩
     ·rw[←hA]
      simp only[bB,Ij,hg]
      simp only[Bool.false_eq_true,if_false,true_and,Nat.zero_add,List.drop_zero]
      rw[if_pos ⟨by simp,hb,by omega⟩,if_neg Fw,if_pos hl]
      simp
     ·simpa using cW (h:=h.set id .dead)
    | some c =>
     refine⟨.sl h.n sz 0 (xs.length+ys.length),h.push (.arr ety sz (xs++ys) none),?_,.arr h.n [] none (by simp) ?_ (by exact bH) eN,(Ext.refl eN wf).push,fun k hk _=>by rw[cJ,if_neg (by omega)],fun k hk _ dK off' len' e=>by injection e;omega⟩
     ·rw[←hA]
      rw[iW hg (by simp) (by omega) hb yB hy]
      simp
     ·simpa using cW (h:=h)
def yF(tree:ID):List bL→List bL→List bL→List bL×List bL
 | done,[],BK=>(done,BK)
 | done,e::r,BK=>if e.tree=tree∧e.up=false∧eJ (done++e::r) tree e.pred=false then yF tree (done++[{e with up:=true}]) r (BK++[{e with up:=true}])else yF tree (done++[e]) r BK
def wF(b : aL)(tree sub : ID)(lG : Int) : aL × List bL × Bool :=
  match b.entries.find? (isE tree sub)with
  | none => (b, [], false)
  | some e => if e.lG = lG then
      (if e.up = true then({ b with entries := (yF tree [] (b.entries.filter fun x => !isE tree sub x) []).1 }, (yF tree [] (b.entries.filter fun x => !isE tree sub x) []).2, true)
       else({ b with entries := b.entries.filter fun x => !isE tree sub x }, [], false))
    else(b, [], false)
end Go.Dm.Tc
/-
What functions of the program compute,part 19: an entry taken out (the loop).
-/
namespace Go.Dm.Tc
end Go.Dm.Tc
/-
What functions of the program compute,part 20: an entry taken out.
-/
namespace Go.Dm.Tc
end Go.Dm.Tc
/-
What the reference's functions compute,part 8: an entry taken out (the loop).
-/
namespace Go.Dm.Tc
end Go.Dm.Tc
/-
What the reference's functions compute,part 9: an entry taken out.
-/
namespace Go.Dm.Tc
end Go.Dm.Tc
