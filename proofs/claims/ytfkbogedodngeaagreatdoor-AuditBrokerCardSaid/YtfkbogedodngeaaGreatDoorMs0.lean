/- A part of the proof. -/
import Derived.Test.YtfkbogedodngeaaGreatDoorTcE
import Derived.Test.YtfkbogedodngeaaGreatDoorMm5
set_option linter.all false
set_option maxRecDepth 100000
namespace Go.Dm.Tc
def eM:Option Nat→Int
 | some i=>i
 | none=>-1
theorem l222(t:Bool)(xs:List bB)(g:Nat)(cap:List DV)(p:bB→Bool)(hg:∀x∈xs,∀h,fc D g ([aN x]++cap) h=some (.bool (p x),h))(hl:xs.length≤1000000) :
  ∀(rest:List bB) (i:Nat) (f:dJ) (h:aA),xs.drop i=rest→f 0=eL t 7 aN xs→f 1=.func g cap→f 7=.int .i64 xs.length→f 8=.int .i64 i →
  dY (fin [.t 4] (run D 19 [.block 0,.seq C0] (.loop Pa) f h))=some (.int .i64 (eM ((rest.findIdx? p).map (·+i)))):=by
 intro rest
 induction rest with
 | nil =>
  intro i f h hd h0 h1 h7 h8
  have hi:=cY hd
  have:¬(i<xs.length):=by omega
  rw[aC Pa.eq_1]
  simp[C0,h7,h8,this,eM]
 | cons e rest ih =>
  intro i f h hd h0 h1 h7 h8
  obtain⟨hi,he,fV⟩:=cN hd
  have rP:=hg e (by rw[←he];exact List.getElem_mem hi)
  simp only[aN,List.cons_append,List.nil_append]at rP
  rw[aC Pa.eq_1]
  cases hp:p e with
  | true=>simp[h0,h1,h7,h8,hi,he,aN,rP,hp,eM,List.findIdx?_cons]
  | false =>
   simp[h0,h1,h7,h8,hi,he,aN,rP,hp]
   rw[bE (by omega) (by omega)]
   refine(ih (i+1) _ h fV ?_ ?_ ?_ ?_).trans ?_<;>simp[h0,h1,h7,List.findIdx?_cons,hp]
   congr 2
   funext q
   simp
   omega
theorem s222(t:Bool)(xs:List bB)(g:Nat)(cap:List DV)(p:bB→Bool)(hg:∀x∈xs,∀h,fc D g ([aN x]++cap) h=some (.bool (p x),h))(hl:xs.length≤1000000) :
  pcF D AF [eL t 7 aN xs,.func g cap]=some (.int .i64 (eM (xs.findIdx? p))):=by
 unfold pcF
 rw[aP _ _ _ _ (by simp[AF])]
 simp[AF]
 refine(l222 t xs g cap p hg hl xs 0 _ _ rfl ?_ ?_ ?_ ?_).trans ?_<;>simp
theorem l219(t:Bool)(xs:List bD)(g:Nat)(cap:List DV)(p:bD→Bool)(hg:∀x∈xs,∀h,fc D g ([aJ x]++cap) h=some (.bool (p x),h))(hl:xs.length≤1000000) :
  ∀(rest:List bD) (i:Nat) (f:dJ) (h:aA),xs.drop i=rest→f 0=eL t 4 aJ xs→f 1=.func g cap→f 7=.int .i64 xs.length→f 8=.int .i64 i →
  dY (fin [.t 4] (run D 19 [.block 0,.seq C1] (.loop Pb) f h))=some (.int .i64 (eM ((rest.findIdx? p).map (·+i)))):=by
 intro rest
 induction rest with
 | nil =>
  intro i f h hd h0 h1 h7 h8
  have hi:=cY hd
  have:¬(i<xs.length):=by omega
  rw[aC Pb.eq_1]
  simp[C1,h7,h8,this,eM]
 | cons e rest ih =>
  intro i f h hd h0 h1 h7 h8
  obtain⟨hi,he,fV⟩:=cN hd
  have rP:=hg e (by rw[←he];exact List.getElem_mem hi)
  simp only[aJ,List.cons_append,List.nil_append]at rP
  rw[aC Pb.eq_1]
  cases hp:p e with
  | true=>simp[h0,h1,h7,h8,hi,he,aJ,rP,hp,eM,List.findIdx?_cons]
  | false =>
   simp[h0,h1,h7,h8,hi,he,aJ,rP,hp]
   rw[bE (by omega) (by omega)]
   refine(ih (i+1) _ h fV ?_ ?_ ?_ ?_).trans ?_<;>simp[h0,h1,h7,List.findIdx?_cons,hp]
   congr 2
   funext q
   simp
   omega
theorem s219(t:Bool)(xs:List bD)(g:Nat)(cap:List DV)(p:bD→Bool)(hg:∀x∈xs,∀h,fc D g ([aJ x]++cap) h=some (.bool (p x),h))(hl:xs.length≤1000000) :
  pcF D AI [eL t 4 aJ xs,.func g cap]=some (.int .i64 (eM (xs.findIdx? p))):=by
 unfold pcF
 rw[aP _ _ _ _ (by simp[AI])]
 simp[AI]
 refine(l219 t xs g cap p hg hl xs 0 _ _ rfl ?_ ?_ ?_ ?_).trans ?_<;>simp
theorem l223(t:Bool)(xs:List fQ)(g:Nat)(cap:List DV)(p:fQ→Bool)(hg:∀x∈xs,∀h,fc D g ([cB x]++cap) h=some (.bool (p x),h))(hl:xs.length≤1000000) :
  ∀(rest:List fQ) (i:Nat) (f:dJ) (h:aA),xs.drop i=rest→f 0=eL t 3 cB xs→f 1=.func g cap→f 7=.int .i64 xs.length→f 8=.int .i64 i →
  dY (fin [.t 4] (run D 19 [.block 0,.seq B9] (.loop Oz) f h))=some (.int .i64 (eM ((rest.findIdx? p).map (·+i)))):=by
 intro rest
 induction rest with
 | nil =>
  intro i f h hd h0 h1 h7 h8
  have hi:=cY hd
  have:¬(i<xs.length):=by omega
  rw[aC Oz.eq_1]
  simp[B9,h7,h8,this,eM]
 | cons e rest ih =>
  intro i f h hd h0 h1 h7 h8
  obtain⟨hi,he,fV⟩:=cN hd
  have rP:=hg e (by rw[←he];exact List.getElem_mem hi)
  simp only[cB,List.cons_append,List.nil_append]at rP
  rw[aC Oz.eq_1]
  cases hp:p e with
  | true=>simp[h0,h1,h7,h8,hi,he,cB,rP,hp,eM,List.findIdx?_cons]
  | false =>
   simp[h0,h1,h7,h8,hi,he,cB,rP,hp]
   rw[bE (by omega) (by omega)]
   refine(ih (i+1) _ h fV ?_ ?_ ?_ ?_).trans ?_<;>simp[h0,h1,h7,List.findIdx?_cons,hp]
   congr 2
   funext q
   simp
   omega
theorem s223(t:Bool)(xs:List fQ)(g:Nat)(cap:List DV)(p:fQ→Bool)(hg:∀x∈xs,∀h,fc D g ([cB x]++cap) h=some (.bool (p x),h))(hl:xs.length≤1000000) :
  pcF D AE [eL t 3 cB xs,.func g cap]=some (.int .i64 (eM (xs.findIdx? p))):=by
 unfold pcF
 rw[aP _ _ _ _ (by simp[AE])]
 simp[AE]
 refine(l223 t xs g cap p hg hl xs 0 _ _ rfl ?_ ?_ ?_ ?_).trans ?_<;>simp
theorem Bk{α:Type}(p:α→Bool)(xs:List α):decide (0≤eM (xs.findIdx? p))=xs.any p:=by
 cases h:xs.findIdx? p with
 | none =>
  rw[List.findIdx?_eq_none_iff]at h
  simp only[eM]
  have:xs.any p=false:=by rw[List.any_eq_false];exact fun x hx=>by simp[h x hx]
  rw[this];rfl
 | some i =>
  have:=List.findIdx?_eq_some_iff_getElem.1 h
  obtain⟨hi,hp,_⟩:=this
  have:xs.any p=true:=List.any_eq_true.2 ⟨_,List.getElem_mem hi,hp⟩
  rw[this]
  simp[eM]
theorem d7(t:Bool)(xs:List bB)(g:Nat)(cap:List DV)(p:bB→Bool)(hc:∀x∈cap,gP 20 x)(hg:∀x∈xs,∀h,fc D g ([aN x]++cap) h=some (.bool (p x),h))(hl:xs.length≤1000000) :
  pcF D AV [eL t 7 aN xs,.func g cap]=some (.bool (xs.any p)):=by
 unfold pcF
 rw[aP _ _ _ _ (by simp[AV])]
 have hf:∀tg h,resolve tg h 200 (.func g cap)=some (.func g cap):=fun tg h=>Dn (k:=20) hc tg h 200 (by decide)
 simp[AV,e222,hf,-Bf,s222 t xs g cap p hg hl]
 have:=Bk p xs
 simpa using this
theorem s155(t:Bool)(xs:List bD)(g:Nat)(cap:List DV)(p:bD→Bool)(hc:∀x∈cap,gP 20 x)(hg:∀x∈xs,∀h,fc D g ([aJ x]++cap) h=some (.bool (p x),h))(hl:xs.length≤1000000) :
  pcF D AY [eL t 4 aJ xs,.func g cap]=some (.bool (xs.any p)):=by
 unfold pcF
 rw[aP _ _ _ _ (by simp[AY])]
 have hf:∀tg h,resolve tg h 200 (.func g cap)=some (.func g cap):=fun tg h=>Dn (k:=20) hc tg h 200 (by decide)
 simp[AY,e219,hf,-Bf,s219 t xs g cap p hg hl]
 have:=Bk p xs
 simpa using this
theorem s162(t:Bool)(xs:List fQ)(g:Nat)(cap:List DV)(p:fQ→Bool)(hc:∀x∈cap,gP 20 x)(hg:∀x∈xs,∀h,fc D g ([cB x]++cap) h=some (.bool (p x),h))(hl:xs.length≤1000000) :
  pcF D AT [eL t 3 cB xs,.func g cap]=some (.bool (xs.any p)):=by
 unfold pcF
 rw[aP _ _ _ _ (by simp[AT])]
 have hf:∀tg h,resolve tg h 200 (.func g cap)=some (.func g cap):=fun tg h=>Dn (k:=20) hc tg h 200 (by decide)
 simp[AT,e223,hf,-Bf,s223 t xs g cap p hg hl]
 have:=Bk p xs
 simpa using this
theorem l277(t:Bool)(xs:List Int)(v:Int)(hl:xs.length≤1000000) :
  ∀(rest:List Int) (i:Nat) (f:dJ) (h:aA),xs.drop i=rest→f 0=eL t 1 cF xs→f 1=.int .i64 v→f 7=.int .i64 xs.length→f 8=.int .i64 i →
  dY (fin [.t 4] (run D 19 [.block 0,.seq B3] (.loop Oo) f h))=some (.int .i64 (eM ((rest.findIdx? (v == ·)).map (·+i)))):=by
 intro rest
 induction rest with
 | nil =>
  intro i f h hd h0 h1 h7 h8
  have hi:=cY hd
  have:¬(i<xs.length):=by omega
  rw[aC Oo.eq_1]
  simp[B3,h7,h8,this,eM]
 | cons e rest ih =>
  intro i f h hd h0 h1 h7 h8
  obtain⟨hi,he,fV⟩:=cN hd
  rw[aC Oo.eq_1]
  by_cases hp:v=e
  ·simp[h0,h1,h7,h8,hi,he,cF,hp,eM,List.findIdx?_cons]
  ·simp[h0,h1,h7,h8,hi,he,cF,hp]
   rw[bE (by omega) (by omega)]
   refine(ih (i+1) _ h fV ?_ ?_ ?_ ?_).trans ?_<;>simp[h0,h1,h7,List.findIdx?_cons,hp,cF]
   congr 2
   funext q
   simp
   omega
theorem s277(t:Bool)(xs:List Int)(v:Int)(hl:xs.length≤1000000) :
  pcF D Z9 [eL t 1 cF xs,.int .i64 v]=some (.int .i64 (eM (xs.findIdx? (v == ·)))):=by
 unfold pcF
 rw[aP _ _ _ _ (by simp[Z9])]
 simp[Z9]
 refine(l277 t xs v hl xs 0 _ _ rfl ?_ ?_ ?_ ?_).trans ?_<;>simp
theorem s221(t:Bool)(xs:List Int)(v:Int)(hl:xs.length≤1000000) :
  pcF D AG [eL t 1 cF xs,.int .i64 v]=some (.bool (xs.contains v)):=by
 unfold pcF
 rw[aP _ _ _ _ (by simp[AG])]
 simp[AG,e277,s277 t xs v hl]
 have:=Bk (v == ·) xs
 rw[←decide_eq_true_iff (p:=0≤_),this,List.any_eq_true]
 simp
end Go.Dm.Tc
/-
What functions of the library compute,part 2: comparisons by a function,rows that rise,searches by halves.
-/
namespace Go.Dm.Tc
def cH{α:Type}(p:α→α→Bool):List α→Bool
 | a::b::r=>p a b && cH p (b::r)
 | _=>true
theorem l144(t:Bool)(xs:List Int)(g:Nat)(p:Int→Int→Bool)(hg:∀x∈xs,∀y∈xs,∀h,fc D g [cF x,cF y] h=some (.bool (p x y),h))(hl:xs.length≤1000000) :
  ∀(rest:List Int) (a:Int) (i:Nat) (f:dJ) (h:aA),xs.drop i=a::rest→f 0=eL t 1 cF xs→f 1=.func g []→f 5=.int .i64 ((i:Int)+1) →
  dY (fin [.t 4] (run D 24 [.block 0,.seq Ps] (.loop He) f h))=some (.bool (cH p (a::rest))):=by
 intro rest
 induction rest with
 | nil =>
  intro a i f h hd h0 h1 h5
  obtain⟨hi,he,fV⟩:=cN hd
  have hi:=cY fV
  have:¬((i:Int)+1<xs.length):=by omega
  rw[aC He.eq_1]
  simp[Ps,h0,h5,this,cH]
 | cons e rest ih =>
  intro a i f h hd h0 h1 h5
  obtain⟨hi,he,fV⟩:=cN hd
  obtain⟨lI,vR,hd''⟩:=cN fV
  have rP:=hg a (by rw[←he];exact List.getElem_mem hi) e (by rw[←vR];exact List.getElem_mem lI)
  simp only[cF]at rP
  have aZ:(i:Int)+1<xs.length:=by omega
  have hw:IntKind.i64.wrap (i:Int)=i:=bE (by omega) (by omega)
  rw[aC He.eq_1]
  cases hp:p a e with
  | true =>
   simp[h0,h1,h5,hi,lI,he,vR,cF,rP,hp,aZ,hw]
   rw[bE (by omega) (by omega)]
   refine(ih e (i+1) _ _ fV ?_ ?_ ?_).trans ?_<;>simp[h0,h1,cH,hp,cF]
  | false =>
   simp[h0,h1,h5,hi,lI,he,vR,cF,rP,hp,aZ,hw,cH]
theorem s144(t:Bool)(xs:List Int)(g:Nat)(p:Int→Int→Bool)(hg:∀x∈xs,∀y∈xs,∀h,fc D g [cF x,cF y] h=some (.bool (p x y),h))(hl:xs.length≤1000000) :
  pcF D BJ [eL t 1 cF xs,.func g []]=some (.bool (cH p xs)):=by
 unfold pcF
 rw[aP _ _ _ _ (by simp[BJ])]
 simp[BJ]
 cases xs with
 | nil =>
  rw[aC He.eq_1]
  simp[Ps,cH]
 | cons a r=>refine(l144 t (a::r) g p hg hl r a 0 _ _ rfl ?_ ?_ ?_).trans ?_<;>simp
theorem l146(t:Bool)(xs:List ID)(g:Nat)(p:ID→ID→Bool)(hg:∀x∈xs,∀y∈xs,∀h,fc D g [eID x,eID y] h=some (.bool (p x y),h))(hl:xs.length≤1000000) :
  ∀(rest:List ID) (a:ID) (i:Nat) (f:dJ) (h:aA),xs.drop i=a::rest→f 0=eL t 2 eID xs→f 1=.func g []→f 5=.int .i64 ((i:Int)+1) →
  dY (fin [.t 4] (run D 24 [.block 0,.seq Pr] (.loop Hd) f h))=some (.bool (cH p (a::rest))):=by
 intro rest
 induction rest with
 | nil =>
  intro a i f h hd h0 h1 h5
  obtain⟨hi,he,fV⟩:=cN hd
  have hi:=cY fV
  have:¬((i:Int)+1<xs.length):=by omega
  rw[aC Hd.eq_1]
  simp[Pr,h0,h5,this,cH]
 | cons e rest ih =>
  intro a i f h hd h0 h1 h5
  obtain⟨hi,he,fV⟩:=cN hd
  obtain⟨lI,vR,hd''⟩:=cN fV
  have rP:=hg a (by rw[←he];exact List.getElem_mem hi) e (by rw[←vR];exact List.getElem_mem lI)
  simp only[eID]at rP
  have aZ:(i:Int)+1<xs.length:=by omega
  have hw:IntKind.i64.wrap (i:Int)=i:=bE (by omega) (by omega)
  rw[aC Hd.eq_1]
  cases hp:p a e with
  | true =>
   simp[h0,h1,h5,hi,lI,he,vR,eID,rP,hp,aZ,hw]
   rw[bE (by omega) (by omega)]
   refine(ih e (i+1) _ _ fV ?_ ?_ ?_).trans ?_<;>simp[h0,h1,cH,hp,eID]
  | false =>
   simp[h0,h1,h5,hi,lI,he,vR,eID,rP,hp,aZ,hw,cH]
theorem s146(t:Bool)(xs:List ID)(g:Nat)(p:ID→ID→Bool)(hg:∀x∈xs,∀y∈xs,∀h,fc D g [eID x,eID y] h=some (.bool (p x y),h))(hl:xs.length≤1000000) :
  pcF D BH [eL t 2 eID xs,.func g []]=some (.bool (cH p xs)):=by
 unfold pcF
 rw[aP _ _ _ _ (by simp[BH])]
 simp[BH]
 cases xs with
 | nil =>
  rw[aC Hd.eq_1]
  simp[Pr,cH]
 | cons a r=>refine(l146 t (a::r) g p hg hl r a 0 _ _ rfl ?_ ?_ ?_).trans ?_<;>simp
theorem l152(t:Bool)(xs:List bB)(g:Nat)(p:bB→bB→Bool)(hg:∀x∈xs,∀y∈xs,∀h,fc D g [aN x,aN y] h=some (.bool (p x y),h))(hl:xs.length≤1000000) :
  ∀(rest:List bB) (a:bB) (i:Nat) (f:dJ) (h:aA),xs.drop i=a::rest→f 0=eL t 7 aN xs→f 1=.func g []→f 5=.int .i64 ((i:Int)+1) →
  dY (fin [.t 4] (run D 24 [.block 0,.seq Po] (.loop Ha) f h))=some (.bool (cH p (a::rest))):=by
 intro rest
 induction rest with
 | nil =>
  intro a i f h hd h0 h1 h5
  obtain⟨hi,he,fV⟩:=cN hd
  have hi:=cY fV
  have:¬((i:Int)+1<xs.length):=by omega
  rw[aC Ha.eq_1]
  simp[Po,h0,h5,this,cH]
 | cons e rest ih =>
  intro a i f h hd h0 h1 h5
  obtain⟨hi,he,fV⟩:=cN hd
  obtain⟨lI,vR,hd''⟩:=cN fV
  have rP:=hg a (by rw[←he];exact List.getElem_mem hi) e (by rw[←vR];exact List.getElem_mem lI)
  simp only[aN]at rP
  have aZ:(i:Int)+1<xs.length:=by omega
  have hw:IntKind.i64.wrap (i:Int)=i:=bE (by omega) (by omega)
  rw[aC Ha.eq_1]
  cases hp:p a e with
  | true =>
   simp[h0,h1,h5,hi,lI,he,vR,aN,rP,hp,aZ,hw]
   rw[bE (by omega) (by omega)]
   refine(ih e (i+1) _ _ fV ?_ ?_ ?_).trans ?_<;>simp[h0,h1,cH,hp,aN]
  | false =>
   simp[h0,h1,h5,hi,lI,he,vR,aN,rP,hp,aZ,hw,cH]
theorem s152(t:Bool)(xs:List bB)(g:Nat)(p:bB→bB→Bool)(hg:∀x∈xs,∀y∈xs,∀h,fc D g [aN x,aN y] h=some (.bool (p x y),h))(hl:xs.length≤1000000) :
  pcF D BB [eL t 7 aN xs,.func g []]=some (.bool (cH p xs)):=by
 unfold pcF
 rw[aP _ _ _ _ (by simp[BB])]
 simp[BB]
 cases xs with
 | nil =>
  rw[aC Ha.eq_1]
  simp[Po,cH]
 | cons a r=>refine(l152 t (a::r) g p hg hl r a 0 _ _ rfl ?_ ?_ ?_).trans ?_<;>simp
theorem l148(t:Bool)(xs:List bD)(g:Nat)(p:bD→bD→Bool)(hg:∀x∈xs,∀y∈xs,∀h,fc D g [aJ x,aJ y] h=some (.bool (p x y),h))(hl:xs.length≤1000000) :
  ∀(rest:List bD) (a:bD) (i:Nat) (f:dJ) (h:aA),xs.drop i=a::rest→f 0=eL t 4 aJ xs→f 1=.func g []→f 5=.int .i64 ((i:Int)+1) →
  dY (fin [.t 4] (run D 24 [.block 0,.seq Pq] (.loop Hc) f h))=some (.bool (cH p (a::rest))):=by
 intro rest
 induction rest with
 | nil =>
  intro a i f h hd h0 h1 h5
  obtain⟨hi,he,fV⟩:=cN hd
  have hi:=cY fV
  have:¬((i:Int)+1<xs.length):=by omega
  rw[aC Hc.eq_1]
  simp[Pq,h0,h5,this,cH]
 | cons e rest ih =>
  intro a i f h hd h0 h1 h5
  obtain⟨hi,he,fV⟩:=cN hd
  obtain⟨lI,vR,hd''⟩:=cN fV
  have rP:=hg a (by rw[←he];exact List.getElem_mem hi) e (by rw[←vR];exact List.getElem_mem lI)
  simp only[aJ]at rP
  have aZ:(i:Int)+1<xs.length:=by omega
  have hw:IntKind.i64.wrap (i:Int)=i:=bE (by omega) (by omega)
  rw[aC Hc.eq_1]
  cases hp:p a e with
  | true =>
   simp[h0,h1,h5,hi,lI,he,vR,aJ,rP,hp,aZ,hw]
   rw[bE (by omega) (by omega)]
   refine(ih e (i+1) _ _ fV ?_ ?_ ?_).trans ?_<;>simp[h0,h1,cH,hp,aJ]
  | false =>
   simp[h0,h1,h5,hi,lI,he,vR,aJ,rP,hp,aZ,hw,cH]
theorem s148(t:Bool)(xs:List bD)(g:Nat)(p:bD→bD→Bool)(hg:∀x∈xs,∀y∈xs,∀h,fc D g [aJ x,aJ y] h=some (.bool (p x y),h))(hl:xs.length≤1000000) :
  pcF D BF [eL t 4 aJ xs,.func g []]=some (.bool (cH p xs)):=by
 unfold pcF
 rw[aP _ _ _ _ (by simp[BF])]
 simp[BF]
 cases xs with
 | nil =>
  rw[aC Hc.eq_1]
  simp[Pq,cH]
 | cons a r=>refine(l148 t (a::r) g p hg hl r a 0 _ _ rfl ?_ ?_ ?_).trans ?_<;>simp
theorem l150(t:Bool)(xs:List fQ)(g:Nat)(p:fQ→fQ→Bool)(hg:∀x∈xs,∀y∈xs,∀h,fc D g [cB x,cB y] h=some (.bool (p x y),h))(hl:xs.length≤1000000) :
  ∀(rest:List fQ) (a:fQ) (i:Nat) (f:dJ) (h:aA),xs.drop i=a::rest→f 0=eL t 3 cB xs→f 1=.func g []→f 5=.int .i64 ((i:Int)+1) →
  dY (fin [.t 4] (run D 24 [.block 0,.seq Pp] (.loop Hb) f h))=some (.bool (cH p (a::rest))):=by
 intro rest
 induction rest with
 | nil =>
  intro a i f h hd h0 h1 h5
  obtain⟨hi,he,fV⟩:=cN hd
  have hi:=cY fV
  have:¬((i:Int)+1<xs.length):=by omega
  rw[aC Hb.eq_1]
  simp[Pp,h0,h5,this,cH]
 | cons e rest ih =>
  intro a i f h hd h0 h1 h5
  obtain⟨hi,he,fV⟩:=cN hd
  obtain⟨lI,vR,hd''⟩:=cN fV
  have rP:=hg a (by rw[←he];exact List.getElem_mem hi) e (by rw[←vR];exact List.getElem_mem lI)
  simp only[cB]at rP
  have aZ:(i:Int)+1<xs.length:=by omega
  have hw:IntKind.i64.wrap (i:Int)=i:=bE (by omega) (by omega)
  rw[aC Hb.eq_1]
  cases hp:p a e with
  | true =>
   simp[h0,h1,h5,hi,lI,he,vR,cB,rP,hp,aZ,hw]
   rw[bE (by omega) (by omega)]
   refine(ih e (i+1) _ _ fV ?_ ?_ ?_).trans ?_<;>simp[h0,h1,cH,hp,cB]
  | false =>
   simp[h0,h1,h5,hi,lI,he,vR,cB,rP,hp,aZ,hw,cH]
theorem s150(t:Bool)(xs:List fQ)(g:Nat)(p:fQ→fQ→Bool)(hg:∀x∈xs,∀y∈xs,∀h,fc D g [cB x,cB y] h=some (.bool (p x y),h))(hl:xs.length≤1000000) :
  pcF D BD [eL t 3 cB xs,.func g []]=some (.bool (cH p xs)):=by
 unfold pcF
 rw[aP _ _ _ _ (by simp[BD])]
 simp[BD]
 cases xs with
 | nil =>
  rw[aC Hb.eq_1]
  simp[Pp,cH]
 | cons a r=>refine(l150 t (a::r) g p hg hl r a 0 _ _ rfl ?_ ?_ ?_).trans ?_<;>simp
end Go.Dm.Tc
/-
What functions of the library compute,part 3: the search by halves.
-/
namespace Go.Dm.Tc
def aV{α:Type}(cm:α→Int)(xs:List α):Nat:=xs.findIdx fun x=>!decide (cm x<0)
def iN{α:Type}(cm:α→Int)(xs:List α):Bool:=match xs[aV cm xs]? with|some x=>decide (cm x=0)|none=>false
theorem eI{α:Type}(cm:α→Int)(xs:List α):aV cm xs≤xs.length:=List.findIdx_le_length
theorem xW{α:Type}{cm:α→Int}{xs:List α}{k:Nat}(hk:k≤xs.length)(h1:∀q (hq:q<k),cm (xs[q]'(by omega))<0)(h2:∀(hq:k<xs.length),¬cm xs[k]<0):aV cm xs=k:=by
 unfold aV
 rcases Nat.lt_or_eq_of_le hk with aZ|rfl
 ·rw[List.findIdx_eq aZ]
  refine⟨by simpa using h2 aZ,fun j hj=>by simpa using h1 j hj⟩
 ·rw[List.findIdx_eq_length]
  intro x hx
  obtain⟨i,hi,rfl⟩:=List.mem_iff_getElem.1 hx
  simpa using h1 i hi
theorem l276(t:Bool)(xs:List ID)(c s:Int)(g:Nat)(cap:List DV)(cm:ID→Int)(hg:∀x∈xs,∀h,fc D g ([eID x,.agg [.int .i64 c,.int .i64 s]]++cap) h=some (.int .i64 (cm x),h))(hl:xs.length≤1000000)
  (hm:∀i j (hi:i<xs.length) (hj:j<xs.length),i≤j→cm xs[j]<0→cm xs[i]<0) (h:aA) (cp:Option Nat) (Tg:h.get 0=some (.arr 45 2 [.agg [.int .i64 c,.int .i64 s]] cp)) :
  ∀(n i j:Nat) (f:dJ),j-i=n→i≤j→j≤xs.length→f 0=eL t 2 eID xs→f 2=.func g cap→f 4=.ptr 0 2 0 0→f 8=.int .i64 xs.length→f 9=.int .i64 i→f 10=.int .i64 j →
  (∀q (hq:q<i),(tJ:q<xs.length)→cm xs[q]<0)→(∀q (hq:q<xs.length),j≤q→¬cm xs[q]<0) →
  dY (fin [.t 6,.t 7] (run D 49 [.block 0,.seq Oq] (.loop B4) f h))=some (.tup [.int .i64 (aV cm xs),.bool (iN cm xs)]):=by
 intro n
 induction n using Nat.strongRecOn with
 | ind n ih =>
  intro i j f hn NP hj h0 h2 h4 h8 h9 jY jU wM
  rw[aC B4.eq_1]
  by_cases aZ:i<j
  ·have hk:(i+j) / 2<xs.length:=by omega
   have RD:xs[(i+j) / 2]?=some xs[(i+j) / 2]:=List.getElem?_eq_getElem hk
   have rP:=hg xs[(i+j) / 2] (List.getElem_mem hk)
   simp only[eID,List.cons_append,List.nil_append]at rP
   have w1:IntKind.i64.wrap ((i:Int)+j)=((i:Int)+j):=bE (by omega) (by omega)
   have w2:IntKind.u64.wrap ((i:Int)+j)=((i:Int)+j):=Oe (by omega) (by omega)
   have w3:IntKind.i64.wrap (((i+j) / 2:Nat):Int)=((i+j) / 2:Nat):=bE (by omega) (by omega)
   have w4:IntKind.i64.wrap ((((i+j) / 2:Nat):Int)+1)=((((i+j) / 2:Nat):Int)+1):=bE (by omega) (by omega)
   by_cases hc:cm xs[(i+j) / 2]<0
   ·simp[h0,h2,h4,h8,h9,jY,aZ,hk,RD,Tg,rP,eID,w1,w2,w3,w4,hc,-Int.natCast_ediv]
    refine ih (j-((i+j) / 2+1)) (by omega) ((i+j) / 2+1) j _ rfl (by omega) hj ?_ ?_ ?_ ?_ ?_ ?_ ?_ wM<;>try simp[h0,h2,h4,h8,jY,eID]
    intro q hq tJ
    exact hm q ((i+j) / 2) tJ hk (by omega) hc
   ·simp[h0,h2,h4,h8,h9,jY,aZ,hk,RD,Tg,rP,eID,w1,w2,w3,w4,hc,-Int.natCast_ediv]
    refine ih ((i+j) / 2-i) (by omega) i ((i+j) / 2) _ rfl (by omega) (by omega) ?_ ?_ ?_ ?_ ?_ ?_ jU ?_<;>simp[h0,h2,h4,h8,h9,eID]
    intro q hq tJ
    exact Int.not_lt.1 fun hx=>hc (hm ((i+j) / 2) q hk hq tJ hx)
  ·have hij':i=j:=by omega
   subst hij'
   have fY:aV cm xs=i:=xW hj (fun q hq=>jU q hq (by omega)) (fun hq=>wM i hq (Nat.le_refl i))
   by_cases hi:i<xs.length
   ·have rP:=hg xs[i] (List.getElem_mem hi)
    simp only[eID,List.cons_append,List.nil_append]at rP
    have RD:xs[i]?=some xs[i]:=List.getElem?_eq_getElem hi
    simp[Oq,h0,h2,h4,h8,h9,jY,hi,RD,Tg,rP,eID,fY,iN,aT]
    rfl
   ·simp[Oq,h0,h2,h4,h8,h9,jY,hi,fY,iN,aT]
theorem s276(t:Bool)(xs:List ID)(c s:Int)(g:Nat)(cap:List DV)(cm:ID→Int)(hg:∀x∈xs,∀h,fc D g ([eID x,.agg [.int .i64 c,.int .i64 s]]++cap) h=some (.int .i64 (cm x),h))(hl:xs.length≤1000000)
  (hm:∀i j (hi:i<xs.length) (hj:j<xs.length),i≤j→cm xs[j]<0→cm xs[i]<0) :
  pcF D AA [eL t 2 eID xs,.agg [.int .i64 c,.int .i64 s],.func g cap]=some (.tup [.int .i64 (aV cm xs),.bool (iN cm xs)]):=by
 unfold pcF
 rw[aP _ _ _ _ (by simp[AA])]
 simp[AA]
 refine l276 t xs c s g cap cm hg hl hm _ (some 1) (by simp) xs.length 0 xs.length _ (by omega) (by omega) (by omega) ?_ ?_ ?_ ?_ ?_ ?_ ?_ ?_<;>simp
 intro q hq tJ
 omega
theorem l183(t:Bool)(xs:List bD)(c s:Int)(g:Nat)(cap:List DV)(cm:bD→Int)(hg:∀x∈xs,∀h,fc D g ([aJ x,.agg [.int .i64 c,.int .i64 s]]++cap) h=some (.int .i64 (cm x),h))(hl:xs.length≤1000000)
  (hm:∀i j (hi:i<xs.length) (hj:j<xs.length),i≤j→cm xs[j]<0→cm xs[i]<0) (h:aA) (cp:Option Nat) (Tg:h.get 0=some (.arr 45 2 [.agg [.int .i64 c,.int .i64 s]] cp)) :
  ∀(n i j:Nat) (f:dJ),j-i=n→i≤j→j≤xs.length→f 0=eL t 4 aJ xs→f 2=.func g cap→f 4=.ptr 0 2 0 0→f 8=.int .i64 xs.length→f 9=.int .i64 i→f 10=.int .i64 j →
  (∀q (hq:q<i),(tJ:q<xs.length)→cm xs[q]<0)→(∀q (hq:q<xs.length),j≤q→¬cm xs[q]<0) →
  dY (fin [.t 6,.t 7] (run D 49 [.block 0,.seq Pn] (.loop C9) f h))=some (.tup [.int .i64 (aV cm xs),.bool (iN cm xs)]):=by
 intro n
 induction n using Nat.strongRecOn with
 | ind n ih =>
  intro i j f hn NP hj h0 h2 h4 h8 h9 jY jU wM
  rw[aC C9.eq_1]
  by_cases aZ:i<j
  ·have hk:(i+j) / 2<xs.length:=by omega
   have RD:xs[(i+j) / 2]?=some xs[(i+j) / 2]:=List.getElem?_eq_getElem hk
   have rP:=hg xs[(i+j) / 2] (List.getElem_mem hk)
   simp only[aJ,List.cons_append,List.nil_append]at rP
   have w1:IntKind.i64.wrap ((i:Int)+j)=((i:Int)+j):=bE (by omega) (by omega)
   have w2:IntKind.u64.wrap ((i:Int)+j)=((i:Int)+j):=Oe (by omega) (by omega)
   have w3:IntKind.i64.wrap (((i+j) / 2:Nat):Int)=((i+j) / 2:Nat):=bE (by omega) (by omega)
   have w4:IntKind.i64.wrap ((((i+j) / 2:Nat):Int)+1)=((((i+j) / 2:Nat):Int)+1):=bE (by omega) (by omega)
   by_cases hc:cm xs[(i+j) / 2]<0
   ·simp[h0,h2,h4,h8,h9,jY,aZ,hk,RD,Tg,rP,aJ,w1,w2,w3,w4,hc,-Int.natCast_ediv]
    refine ih (j-((i+j) / 2+1)) (by omega) ((i+j) / 2+1) j _ rfl (by omega) hj ?_ ?_ ?_ ?_ ?_ ?_ ?_ wM<;>try simp[h0,h2,h4,h8,jY,aJ]
    intro q hq tJ
    exact hm q ((i+j) / 2) tJ hk (by omega) hc
   ·simp[h0,h2,h4,h8,h9,jY,aZ,hk,RD,Tg,rP,aJ,w1,w2,w3,w4,hc,-Int.natCast_ediv]
    refine ih ((i+j) / 2-i) (by omega) i ((i+j) / 2) _ rfl (by omega) (by omega) ?_ ?_ ?_ ?_ ?_ ?_ jU ?_<;>simp[h0,h2,h4,h8,h9,aJ]
    intro q hq tJ
    exact Int.not_lt.1 fun hx=>hc (hm ((i+j) / 2) q hk hq tJ hx)
  ·have hij':i=j:=by omega
   subst hij'
   have fY:aV cm xs=i:=xW hj (fun q hq=>jU q hq (by omega)) (fun hq=>wM i hq (Nat.le_refl i))
   by_cases hi:i<xs.length
   ·have rP:=hg xs[i] (List.getElem_mem hi)
    simp only[aJ,List.cons_append,List.nil_append]at rP
    have RD:xs[i]?=some xs[i]:=List.getElem?_eq_getElem hi
    simp[Pn,h0,h2,h4,h8,h9,jY,hi,RD,Tg,rP,aJ,fY,iN,aT]
    rfl
   ·simp[Pn,h0,h2,h4,h8,h9,jY,hi,fY,iN,aT]
theorem s183(t:Bool)(xs:List bD)(c s:Int)(g:Nat)(cap:List DV)(cm:bD→Int)(hg:∀x∈xs,∀h,fc D g ([aJ x,.agg [.int .i64 c,.int .i64 s]]++cap) h=some (.int .i64 (cm x),h))(hl:xs.length≤1000000)
  (hm:∀i j (hi:i<xs.length) (hj:j<xs.length),i≤j→cm xs[j]<0→cm xs[i]<0) :
  pcF D AP [eL t 4 aJ xs,.agg [.int .i64 c,.int .i64 s],.func g cap]=some (.tup [.int .i64 (aV cm xs),.bool (iN cm xs)]):=by
 unfold pcF
 rw[aP _ _ _ _ (by simp[AP])]
 simp[AP]
 refine l183 t xs c s g cap cm hg hl hm _ (some 1) (by simp) xs.length 0 xs.length _ (by omega) (by omega) (by omega) ?_ ?_ ?_ ?_ ?_ ?_ ?_ ?_<;>simp
 intro q hq tJ
 omega
end Go.Dm.Tc
/-
What functions of the library compute,part 4: an element put into a row of the call's own.
-/
namespace Go.Dm.Tc
end Go.Dm.Tc
/-
What functions of the statements' books compute: are two rows the same?
-/
namespace Go.Dm.Tc
theorem En{x y:ID}(h:x≠y):(x.aW == y.aW && x.seq == y.seq)=false:=by
 obtain⟨a,b⟩:=x
 obtain⟨c,d⟩:=y
 simp only[ne_eq,ID.mk.injEq,not_and]at h
 by_cases h1:a=c
 ·simp[h1,h h1]
 ·simp[h1]
end Go.Dm.Tc
/-
What functions of the library compute,part 6: an element taken out of a row of the call's own;elements taken out by a function.
-/
namespace Go.Dm.Tc
def lenOf:DV→Option Nat
 | .nsl=>some 0
 | .sl _ _ _ len=>some len
 | .isl _ _ xs=>some xs.length
 | _=>none
end Go.Dm.Tc
/-
What functions of the library compute,part 7: elements taken out by a function.
-/
namespace Go.Dm.Tc
end Go.Dm.Tc
/-
What functions of the program compute,part 1: how advertisements are ordered and found.
-/
namespace Go.Dm.Tc
theorem F0(a:Int):pcF D Ct [.int .i64 a]=some (.bool false):=by
 unfold pcF
 rw[aP _ _ _ _ (by simp[Ct])]
 simp[Ct]
def cmpI(a b:Int):Int:=if a<b then -1 else if b<a then 1 else 0
theorem VV(a b:Int):pcF D wA [.int .i64 a,.int .i64 b]=some (.int .i64 (cmpI a b)):=by
 unfold pcF
 rw[aP _ _ _ _ (by simp[wA])]
 by_cases h1:a<b
 ·simp[wA,P7,F0,h1,cmpI]
 ·by_cases h2:b<a
  ·simp[wA,P7,F0,h1,h2,cmpI]
  ·simp[wA,P7,F0,h1,h2,cmpI]
def orI(a b:Int):Int:=if a=0 then b else a
theorem PM(t:Bool)(a b:Int):pcF D Cv [.isl t 1 [.int .i64 a,.int .i64 b]]=some (.int .i64 (orI a b)):=by
 unfold pcF
 rw[aP _ _ _ _ (by simp[Cv])]
 simp[Cv]
 rw[aC uA.eq_1]
 by_cases h1:a=0
 ·simp[h1,orI,bY,asI]
  rw[aC uA.eq_1]
  by_cases h2:b=0
  ·simp[h2,bY,asI]
   rw[aC uA.eq_1]
   simp[Hg]
  ·simp[h2,bY,asI]
 ·simp[h1,orI,bY,asI]
def bK(a b:ID):Int:=orI (cmpI a.aW b.aW) (cmpI a.seq b.seq)
theorem PL(a b c d:Int):pcF D AZ [.agg [.int .i64 a,.int .i64 b],.agg [.int .i64 c,.int .i64 d]]=some (.int .i64 (bK ⟨a,b⟩ ⟨c,d⟩)):=by
 unfold pcF
 rw[aP _ _ _ _ (by simp[AZ])]
 simp[AZ,XW,VV,SD,mkIsl,PM,bK]
def iD(a b:ID):Bool:=decide (bK a b<0)
theorem VQ(a b c d:Int):pcF D BG [.agg [.int .i64 a,.int .i64 b],.agg [.int .i64 c,.int .i64 d]]=some (.bool (iD ⟨a,b⟩ ⟨c,d⟩)):=by
 unfold pcF
 rw[aP _ _ _ _ (by simp[BG])]
 simp[BG,SA,PL,iD]
theorem s184(a b:Int)(p:bN)(q c d:Int):pcF D AO [.agg [.int .i64 a,.int .i64 b,bQ p,.int .i64 q],.agg [.int .i64 c,.int .i64 d]]=some (.int .i64 (bK ⟨a,b⟩ ⟨c,d⟩)):=by
 unfold pcF
 rw[aP _ _ _ _ (by simp[AO])]
 simp[AO,SA,PL]
def dB(l:List ID):Prop:=l.Pairwise fun a b=>bK a b<0
theorem hM{a b:ID}:bK a b<0↔a.aW<b.aW∨a.aW=b.aW∧a.seq<b.seq:=by
 unfold bK orI cmpI
 split<;>split<;>(try split)<;>(try split)<;>omega
theorem wZ{a b:ID}:bK a b=0↔a=b:=by
 cases a;cases b
 simp only[ID.mk.injEq]
 unfold bK orI cmpI
 simp only
 split<;>split<;>(try split)<;>(try split)<;>omega
theorem wY{a b c:ID}(h1:bK a b<0)(h2:bK b c<0):bK a c<0:=by
 rw[hM]at *;omega
theorem FH(a b:ID):bK a b<0∨a=b∨bK b a<0:=by
 rw[hM,hM]
 cases a;cases b
 simp only[ID.mk.injEq]
 omega
theorem qX{α:Type}{key:α→ID}{xs:List α}(h:dB (xs.map key))(x:ID):∀i j (hi:i<xs.length) (hj:j<xs.length),i≤j→bK (key xs[j]) x<0→bK (key xs[i]) x<0:=by
 intro i j hi hj NP aZ
 rcases Nat.lt_or_eq_of_le NP with hl|rfl
 ·have:=List.pairwise_iff_getElem.1 h i j (by simpa using hi) (by simpa using hj) hl
  simp only[List.getElem_map]at this
  exact wY this aZ
 ·exact aZ
theorem s220(x0 x1 x2 x4 x5:DV)(t:Bool)(l:List ID)(c d:Int)(hr:dB l)(hl:l.length≤1000000) :
  pcF D AH [.agg [x0,x1,x2,eL t 2 eID l,x4,x5],.agg [.int .i64 c,.int .i64 d]]=some (.tup [.int .i64 (aV (fun a=>bK a ⟨c,d⟩) l),.bool (iN (fun a=>bK a ⟨c,d⟩) l)]):=by
 have hb:=s276 t l c d 154 [] (fun a=>bK a ⟨c,d⟩) (fun x _ h=>by simp[eID,SA,PL]) hl (by
  have:=qX (key:=fun a:ID=>a) (xs:=l) (by simpa using hr) ⟨c,d⟩
  exact this)
 unfold pcF
 rw[aP _ _ _ _ (by simp[AH])]
 simp[AH,e276,hb,aT]
theorem s86(x0 x1 x3 x4 x5:DV)(t:Bool)(l:List bD)(c d:Int)(hr:dB (l.map (·.id)))(hl:l.length≤1000000) :
  pcF D t86 [.agg [x0,x1,eL t 4 aJ l,x3,x4,x5],.agg [.int .i64 c,.int .i64 d]]=some (.tup [.int .i64 (aV (fun a=>bK a.id ⟨c,d⟩) l),.bool (iN (fun a=>bK a.id ⟨c,d⟩) l)]):=by
 have hb:=s183 t l c d 184 [] (fun a=>bK a.id ⟨c,d⟩) (fun x _ h=>by simp[aJ,e184,s184]) hl (qX hr ⟨c,d⟩)
 unfold pcF
 rw[aP _ _ _ _ (by simp[t86])]
 simp[t86,e183,hb,aT]
end Go.Dm.Tc
/-
What functions of the program compute,part 2: a broker with rows of its own;an advertisement learned.
-/
namespace Go.Dm.Tc
end Go.Dm.Tc
/-
What functions of the program compute,part 3: an advertisement learned,found.
-/
namespace Go.Dm.Tc
section
variable {α:Type} (key:α→ID)
def iK(a:α)(l:List α):List α:=l.take (aV (fun b=>bK (key b) (key a)) l)++a::l.drop (aV (fun b=>bK (key b) (key a)) l)
theorem Hz{l:List α}(h:dB (l.map key))(x:ID):(∀i (hi:i<l.length),i<aV (fun b=>bK (key b) x) l→bK (key l[i]) x<0)∧(∀i (hi:i<l.length),aV (fun b=>bK (key b) x) l≤i→¬bK (key l[i]) x<0):=by
 constructor
 ·intro i hi aZ
  have:=List.not_of_lt_findIdx (p:=fun b=>!decide (bK (key b) x<0)) aZ
  simpa using this
 ·intro i hi cT hc
  have hk:aV (fun b=>bK (key b) x) l<l.length:=Nat.lt_of_le_of_lt cT hi
  have h1:¬bK (key l[aV (fun b=>bK (key b) x) l]) x<0:=by
   have:=List.findIdx_getElem (p:=fun b=>!decide (bK (key b) x<0)) (w:=hk)
   unfold aV
   simpa using this
  exact h1 (qX h x _ _ hk hi cT hc)
theorem Jh{l:List α}(h:dB (l.map key))(x:ID):match l.find? (fun b=>key b=x)with
  | some a=>iN (fun b=>bK (key b) x) l=true∧l[aV (fun b=>bK (key b) x) l]?=some a
  | none=>iN (fun b=>bK (key b) x) l=false:=by
 obtain⟨r1,r2⟩:=Hz key h x
 have wJ:∀i j (hi:i<l.length) (hj:j<l.length),key l[i]=x→key l[j]=x→i=j:=by
  intro i j hi hj e1 e2
  rcases Nat.lt_trichotomy i j with aZ|he|aZ
  ·have:=List.pairwise_iff_getElem.1 h i j (by simpa using hi) (by simpa using hj) aZ
   simp only[List.getElem_map,e1,e2]at this
   rw[hM]at this;omega
  ·exact he
  ·have:=List.pairwise_iff_getElem.1 h j i (by simpa using hj) (by simpa using hi) aZ
   simp only[List.getElem_map,e1,e2]at this
   rw[hM]at this;omega
 cases hf:l.find? (fun b=>key b=x)with
 | some a =>
  have hax:key a=x:=by simpa using List.find?_some hf
  obtain⟨i,hi,Ji⟩:=List.mem_iff_getElem.1 (List.mem_of_find?_eq_some hf)
  have hk:aV (fun b=>bK (key b) x) l=i:=by
   refine xW (Nat.le_of_lt hi) (fun q hq=>?_) (fun hq=>?_)
   ·have:=List.pairwise_iff_getElem.1 h q i (by simp;omega) (by simpa using hi) hq
    simp only[List.getElem_map,Ji,hax]at this
    exact this
   ·rw[Ji,hax,hM];omega
  have Zu:l[aV (fun b=>bK (key b) x) l]?=some a:=by rw[hk,List.getElem?_eq_getElem hi,Ji]
  refine⟨?_,Zu⟩
  unfold iN
  rw[Zu]
  simp only[hax]
  simp[wZ]
 | none =>
  unfold iN
  cases hg:l[aV (fun b=>bK (key b) x) l]? with
  | none=>rfl
  | some a =>
   have:key a≠x:=by
    have:=List.find?_eq_none.1 hf a (List.mem_of_getElem? hg)
    simpa using this
   simp only[decide_eq_false_iff_not]
   rw[wZ];exact this
end
theorem RG{l:List ID}(hr:dB l)(x:ID):iN (fun b=>bK b x) l=decide (x∈l):=by
 have hf:=Jh (fun a:ID=>a) (by simpa using hr) x
 cases hq:l.find? (fun a=>a=x)with
 | none =>
  rw[hq]at hf
  simp only at hf
  rw[hf]
  have:=List.find?_eq_none.1 hq
  symm
  simp only[decide_eq_false_iff_not]
  intro hm
  exact this x hm (by simp)
 | some a =>
  rw[hq]at hf
  rw[hf.1]
  have h1:a=x:=by simpa using List.find?_some hq
  have h2:=List.mem_of_find?_eq_some hq
  rw[h1]at h2
  simp[h2]
def jK(b:aF)(x:ID):Option bD:=b.aG.find? fun a=>a.id=x
def vK:bD:=⟨⟨0,0⟩,[],0⟩
def lX{α:Type}:Option α→Bool|some _=>true|none=>false
theorem s30(x0 x1 x3 x4 x5:DV)(t:Bool)(l:List bD)(c d:Int)(hr:dB (l.map (·.id)))(hl:l.length≤1000000)(f0:gP 20 x0)(f1:gP 20 x1)(f3:gP 20 x3)(f4:gP 20 x4)(f5:gP 20 x5) :
  pcF D t30 [.agg [x0,x1,eL t 4 aJ l,x3,x4,x5],.agg [.int .i64 c,.int .i64 d]]=some (.tup [aJ ((l.find? fun a=>a.id=⟨c,d⟩).getD vK),.bool (lX (l.find? fun a=>a.id=⟨c,d⟩))]):=by
 have hf:=Jh (fun a:bD=>a.id) hr ⟨c,d⟩
 unfold pcF
 rw[aP _ _ _ _ (by simp[t30])]
 have g0:∀h,resolve true h 199 x0=some x0:=fun h=>f0 _ _ _ (by decide)
 have g1:∀h,resolve true h 199 x1=some x1:=fun h=>f1 _ _ _ (by decide)
 have g3:∀h,resolve true h 199 x3=some x3:=fun h=>f3 _ _ _ (by decide)
 have g4:∀h,resolve true h 199 x4=some x4:=fun h=>f4 _ _ _ (by decide)
 have g5:∀h,resolve true h 199 x5=some x5:=fun h=>f5 _ _ _ (by decide)
 cases hq:l.find? (fun a=>a.id=⟨c,d⟩)with
 | none =>
  rw[hq]at hf
  simp at hf
  simp[t30,e86,s86,g0,g1,g3,g4,g5,hr,hl,hf,hq,aJ,vK,lX,aT]
  rfl
 | some a =>
  rw[hq]at hf
  simp at hf
  simp[t30,e86,s86,g0,g1,g3,g4,g5,hr,hl,hf.1,hf.2,hq,aJ,lX,aT]
theorem s157(x0 x1 x2 x4 x5:DV)(t:Bool)(l:List ID)(c d:Int)(hr:dB l)(hl:l.length≤1000000)(f0:gP 20 x0)(f1:gP 20 x1)(f2:gP 20 x2)(f4:gP 20 x4)(f5:gP 20 x5) :
  pcF D AW [.agg [x0,x1,x2,eL t 2 eID l,x4,x5],.agg [.int .i64 c,.int .i64 d]]=some (.bool (decide (⟨c,d⟩∈l))):=by
 have hh:=RG hr ⟨c,d⟩
 unfold pcF
 rw[aP _ _ _ _ (by simp[AW])]
 have g0:∀h,resolve true h 199 x0=some x0:=fun h=>f0 _ _ _ (by decide)
 have g1:∀h,resolve true h 199 x1=some x1:=fun h=>f1 _ _ _ (by decide)
 have g2:∀h,resolve true h 199 x2=some x2:=fun h=>f2 _ _ _ (by decide)
 have g4:∀h,resolve true h 199 x4=some x4:=fun h=>f4 _ _ _ (by decide)
 have g5:∀h,resolve true h 199 x5=some x5:=fun h=>f5 _ _ _ (by decide)
 simp[AW,e220,s220,g0,g1,g2,g4,g5,hr,hl,hh]
structure jF(b:aF):Prop where
 aL:b.aL.length≤100000
 adv:b.aG.length≤100000
 seen:b.seen.length≤100000
 ent:b.entries.length≤100000
 own:b.bJ.length≤100000
def bX(b:aF)(a:bD):aF×Bool :=
 if a.id∈b.seen then(b,false)else({b with aG:=iK (fun a=>a.id) a b.aG,seen:=iK (fun x=>x) a.id b.seen},true)
end Go.Dm.Tc
/-
What functions of the program compute,part 4: are two brokers the same?
-/
namespace Go.Dm.Tc
structure SizedP(b:aF):Prop where
 adv:∀x∈b.aG,x.pred.length≤1000000
 ent:∀x∈b.entries,x.pred.length≤1000000
 own:∀x∈b.bJ,x.pred.length≤1000000
end Go.Dm.Tc
/-
What functions of the program compute,part 5: the statements' own comparisons of brokers.
-/
namespace Go.Dm.Tc
end Go.Dm.Tc
/-
What functions of the statements' own packages compute: numbers brought into bounds;predicates Fg of numbers;a broker copied.
-/
namespace Go.Dm.Tc
def aQ(n lo hi:Int):Int:=if n.tmod (hi-lo+1)<0 then lo+(n.tmod (hi-lo+1)+hi-lo+1)else lo+n.tmod (hi-lo+1)
theorem eE(n:Int){lo hi:Int}(h:lo≤hi):lo≤aQ n lo hi∧aQ n lo hi≤hi:=by
 have h1:0<hi-lo+1:=by omega
 have h2:=Int.tmod_lt_of_pos n h1
 have h3:-(hi-lo+1)<n.tmod (hi-lo+1):=by
  have:=Int.lt_tmod_of_pos n h1
  omega
 unfold aQ
 split<;>omega
theorem s10(n lo hi:Int)(h:lo≤hi)(fY:-1000000000≤lo)(Fo:hi≤1000000000):pcF D t10 [.int .i64 n,.int .i64 lo,.int .i64 hi]=some (.int .i64 (aQ n lo hi)):=by
 unfold pcF
 rw[aP _ _ _ _ (by simp[t10])]
 have h1:0<hi-lo+1:=by omega
 have h2:=Int.tmod_lt_of_pos n h1
 have h3:-(hi-lo+1)<n.tmod (hi-lo+1):=by
  have:=Int.lt_tmod_of_pos n h1
  omega
 have w1:IntKind.i64.wrap (hi-lo)=hi-lo:=bE (by omega) (by omega)
 have w2:IntKind.i64.wrap (hi-lo+1)=hi-lo+1:=bE (by omega) (by omega)
 have dW:hi-lo+1≠0:=by omega
 have hr:bZ .rem (.int .i64 n) (.int .i64 (hi-lo+1))=some (.int .i64 (n.tmod (hi-lo+1))):=by simp[bZ,dW]
 by_cases zX:n.tmod (hi-lo+1)<0
 ·have w3:IntKind.i64.wrap (n.tmod (hi-lo+1)+hi)=n.tmod (hi-lo+1)+hi:=bE (by omega) (by omega)
  have w4:IntKind.i64.wrap (n.tmod (hi-lo+1)+hi-lo)=n.tmod (hi-lo+1)+hi-lo:=bE (by omega) (by omega)
  have w5:IntKind.i64.wrap (n.tmod (hi-lo+1)+hi-lo+1)=n.tmod (hi-lo+1)+hi-lo+1:=bE (by omega) (by omega)
  have w6:IntKind.i64.wrap (lo+(n.tmod (hi-lo+1)+hi-lo+1))=lo+(n.tmod (hi-lo+1)+hi-lo+1):=bE (by omega) (by omega)
  simp[t10,w1,w2,hr,zX,w3,w4,w5,w6,aQ]
 ·have w6:IntKind.i64.wrap (lo+n.tmod (hi-lo+1))=lo+n.tmod (hi-lo+1):=bE (by omega) (by omega)
  simp[t10,w1,w2,hr,zX,w6,aQ]
def sO:List (List UInt8):=[[97],[98],[99],[100],[101],[102],[103]]
def vX:List (List UInt8):=[[],[120],[120,121],[120,121,122],[120,122],[121],[121,121]]
theorem s80:pcF D t80 []=some (eL false 1 Cd sO):=by
 unfold pcF
 rw[aP _ _ _ _ (by simp[t80])]
 simp[t80,List.replicate]
 exact⟨rfl,rfl⟩
theorem c8:pcF D AQ []=some (eL false 1 Cd vX):=by
 unfold pcF
 rw[aP _ _ _ _ (by simp[AQ])]
 simp[AQ,List.replicate]
 exact⟨rfl,rfl⟩
def Ik(l:List Int)(i:Nat):Int:=if l.length=0 then 0 else l.getD (i % l.length) 0
theorem s72(t:Bool)(l:List Int)(i:Nat):pcF D t72 [eL t 1 cF l,.int .i64 i]=some (.int .i64 (Ik l i)):=by
 unfold pcF
 rw[aP _ _ _ _ (by simp[t72])]
 cases l with
 | nil=>simp[t72,Ik]
 | cons x l =>
  have dW:((l.length:Int)+1)≠0:=by omega
  have hr:bZ .rem (.int .i64 (i:Int)) (.int .i64 ((l.length:Int)+1))=some (.int .i64 ((i % (l.length+1):Nat):Int)):=by
   simp only[bZ,if_true,if_neg dW]
   congr 2
  have aZ:i % (l.length+1)<(x::l).length:=by simp;exact Nat.mod_lt _ (by omega)
  simp[t72,hr,-Int.natCast_emod,List.getElem?_eq_getElem aZ,cF,Ik,dW]
def pR(name:List UInt8)(n:Int):kM :=
 if aQ n 0 3=0∨aQ n 0 3=1 then⟨name,1,aQ (IntKind.i64.wrap (n.tdiv 4)) 0 9,aQ (IntKind.i64.wrap (n.tdiv 4)) 0 9+aQ (IntKind.i64.wrap (n.tdiv 40)) 0 9,[]⟩
 else⟨name,if aQ n 0 3=2 then 2 else 3,0,0,vX.getD (aQ (IntKind.i64.wrap (n.tdiv 4)) 0 6).toNat []⟩
theorem s81(name:List UInt8)(n:Int):pcF D t81 [.str name,.int .i64 n]=some (bC (pR name n)):=by
 unfold pcF
 rw[aP _ _ _ _ (by simp[t81])]
 have w0:=s10 n 0 3 (by decide) (by decide) (by decide)
 have w1:=fun m=>s10 m 0 9 (by decide) (by decide) (by decide)
 have w2:=fun m=>s10 m 0 6 (by decide) (by decide) (by decide)
 have hq4:bZ .quo (.int .i64 n) (.int .i64 4)=some (.int .i64 (IntKind.i64.wrap (n.tdiv 4))):=rfl
 have hq40:bZ .quo (.int .i64 n) (.int .i64 40)=some (.int .i64 (IntKind.i64.wrap (n.tdiv 40))):=rfl
 by_cases h01:aQ n 0 3=0∨aQ n 0 3=1
 ·have b1:=eE (IntKind.i64.wrap (n.tdiv 4)) (show(0:Int)≤9 by decide)
  have b2:=eE (IntKind.i64.wrap (n.tdiv 40)) (show(0:Int)≤9 by decide)
  have w3:IntKind.i64.wrap (aQ (IntKind.i64.wrap (n.tdiv 4)) 0 9+aQ (IntKind.i64.wrap (n.tdiv 40)) 0 9)=aQ (IntKind.i64.wrap (n.tdiv 4)) 0 9+aQ (IntKind.i64.wrap (n.tdiv 40)) 0 9:=bE (by omega) (by omega)
  rcases h01 with h0|h1
  ·simp[t81,e10,w0,w1,hq4,hq40,h0,turn]
   rw[w3]
   simp[pR,bC,h0]
  ·simp[t81,e10,w0,w1,hq4,hq40,h1,turn]
   rw[w3]
   simp[pR,bC,h1]
 ·have b1:=eE (IntKind.i64.wrap (n.tdiv 4)) (show(0:Int)≤6 by decide)
  have aZ:(aQ (IntKind.i64.wrap (n.tdiv 4)) 0 6).toNat<vX.length:=by simp[vX];omega
  obtain⟨tx,hx⟩:∃ tx,vX[(aQ (IntKind.i64.wrap (n.tdiv 4)) 0 6).toNat]?=some tx:=⟨_,List.getElem?_eq_getElem aZ⟩
  have h0:¬aQ n 0 3=0:=fun h=>h01 (.inl h)
  have h1:¬aQ n 0 3=1:=fun h=>h01 (.inr h)
  by_cases h2:aQ n 0 3=2
  ·simp[t81,e10,w0,w2,hq4,h0,h1,h2,turn,u7,c8,b1.1,hx,Cd]
   simp[pR,bC,h0,h1,h2,hx]
  ·simp[t81,e10,w0,w2,hq4,h0,h1,h2,turn,u7,c8,b1.1,hx,Cd]
   simp[pR,bC,h0,h1,h2,hx]
end Go.Dm.Tc
/-
What functions of the statements' own packages compute: predicates Fg of numbers.
-/
namespace Go.Dm.Tc
def YI(n:Int):Int:=IntKind.i64.wrap ((BitVec.ofInt 64 n &&& BitVec.ofInt 64 1).toNat:Int)
def WH(n:Int):Bool:=decide (YI n=1)
def fT(has vals:List Int):List (List UInt8)→Nat→bN→bN
 | [],_,iA=>iA
 | nm::r,i,iA=>if i<has.length∧WH (has.getD i 0)=true∧iA.length<5 then fT has vals r (i+1) (iA++[pR nm (Ik vals i)])else fT has vals r (i+1) iA
def dV(has vals:List Int):bN:=fT has vals sO 0 []
theorem Te(n:Int):bZ .and (.int .i64 n) (.int .i64 1)=some (.int .i64 (YI n)):=rfl
theorem JP{lo:Nat}{h:aA}{v:DV}{ety:Nat}{ys:List kM}(w:Own lo h v ety 5 (ys.map bC)):dY (some (v,h))=some (bQ ys):=w.out (fun y _=>(sZ y).1.mono (by decide)) (fun y _=>(sZ y).2.mono (by decide)) (k:=22) (by decide)
theorem l26(th tv:Bool)(has vals:List Int)(tp:Nat)(h0:aA)(g0:h0.get 0=some (.arr tp 2 [.agg [eL th 1 cF has,eL tv 1 cF vals]] (some 1)))(aO:h0.lim=0)(hl:has.length≤9223372036854775807) :
  ∀(rest:List (List UInt8)) (iA:bN) (i:Nat) (f:dJ) (h:aA),sO.drop i=rest→iA.length≤i→f 1=.ptr 0 2 0 0→f 6=eL false 1 Cd sO→f 7=.int .i64 7→f 8=.int .i64 i→Own 1 h (f 3) 94 5 (iA.map bC)→Ext 1 h0 h →
  dY (fin [.t 2] (run D 43 [.block 0,.seq HN] (.loop T3) f h))=some (bQ (fT has vals rest i iA)):=by
 intro rest
 induction rest with
 | nil =>
  intro iA i f h hd ha h1 h6 h7 h8 ho hx
  have hi:=cY hd
  have:¬((i:Int)<7):=by simp[sO]at hi;omega
  rw[aC T3.eq_1]
  simp[HN,h7,h8,this,fT]
  exact JP ho
 | cons nm rest ih =>
  intro iA i f h hd ha h1 h6 h7 h8 ho hx
  obtain⟨hi,he,fV⟩:=cN hd
  have hi7:i<7:=by simpa[sO]using hi
  have aZ:(i:Int)<7:=by omega
  have Tg:=(hx.get 0 (by decide)).trans g0
  have w1:IntKind.i64.wrap ((i:Int)+1)=(i:Int)+1:=bE (by omega) (by omega)
  have hpk:=s72 tv vals i
  have cM:lenV h 1 (f 3)=some (.int .i64 (iA.length:Int)):=by simpa using ho.lenV
  rw[aC T3.eq_1]
  by_cases c1:i<has.length
  ·obtain⟨b,hb⟩:∃ b,has[i]=b:=⟨_,rfl⟩
   have Kw:has.getD i 0=b:=by rw[List.getD_eq_getElem?_getD,List.getElem?_eq_getElem c1,hb];rfl
   by_cases c2:YI b=1
   ·by_cases c3:iA.length<5
    ·have c3':(iA.length:Int)<5:=by omega
     have hm:fT has vals (nm::rest) i iA=fT has vals rest (i+1) (iA++[pR nm (Ik vals i)]):=by simp only[fT];rw[if_pos ⟨c1,by rw[Kw];simp[WH,c2],c3⟩]
     rw[hm]
     simp[h1,h6,h7,h8,aZ,Tg,hi,he,Cd,cF,c1,hb,Te,c2,cM,c3',e72,hpk,e81,s81,bC]
     generalize hA:aU _ _ _ _ _ _=A
     obtain⟨v',h',rfl,Xl,Bl⟩:=ho.push.append hx.push.wf hx.push.le (by rw[hx.push.lim,aO];omega) hA (by simp;omega) (by decide)
     simp[w1,h8]
     refine ih (iA++[pR nm (Ik vals i)]) (i+1) _ h' fV (by simp;omega) ?_ ?_ ?_ ?_ ?_ (hx.push.trans Bl)<;>simp[h1,h6,h7]
     simpa[bC]using Xl
    ·have c3':¬(iA.length:Int)<5:=by omega
     have hm:fT has vals (nm::rest) i iA=fT has vals rest (i+1) iA:=by simp only[fT];rw[if_neg (fun q=>c3 q.2.2)]
     rw[hm]
     simp[h1,h6,h7,h8,aZ,Tg,hi,he,Cd,cF,c1,hb,Te,c2,cM,c3',w1]
     refine ih iA (i+1) _ h fV (by omega) ?_ ?_ ?_ ?_ ?_ hx<;>simp[h1,h6,h7,ho]
   ·have hm:fT has vals (nm::rest) i iA=fT has vals rest (i+1) iA:=by simp only[fT];rw[if_neg (fun q=>c2 (by rw[Kw]at q;simpa[WH]using q.2.1))]
    rw[hm]
    simp[h1,h6,h7,h8,aZ,Tg,hi,he,Cd,cF,c1,hb,Te,c2,w1]
    refine ih iA (i+1) _ h fV (by omega) ?_ ?_ ?_ ?_ ?_ hx<;>simp[h1,h6,h7,ho]
  ·have c1':¬((i:Int)<has.length):=by omega
   have hm:fT has vals (nm::rest) i iA=fT has vals rest (i+1) iA:=by simp only[fT];rw[if_neg (fun q=>c1 q.1)]
   rw[hm]
   simp[h1,h6,h7,h8,aZ,Tg,hi,he,Cd,c1,w1]
   refine ih iA (i+1) _ h fV (by omega) ?_ ?_ ?_ ?_ ?_ hx<;>simp[h1,h6,h7,ho]
theorem s26(th tv:Bool)(has vals:List Int)(hl:has.length≤9223372036854775807) :
  pcF D t26 [.agg [eL th 1 cF has,eL tv 1 cF vals]]=some (bQ (dV has vals)):=by
 unfold pcF
 rw[aP _ _ _ _ (by simp[t26])]
 simp[t26,e80,s80]
 refine l26 th tv has vals 27 _ ?_ ?_ hl sO [] 0 _ _ rfl (by simp) ?_ ?_ ?_ ?_ ?_ (Ext.refl ?_ ?_)<;>simp[sO]
 exact .start _ _ _ _
end Go.Dm.Tc
/-
What functions of the statements' own packages compute: a broker copied;the reference's orders and searches.
-/
namespace Go.Dm.Tc
end Go.Dm.Tc
/-
What the reference's functions compute,part 1: orders,searches,an advertisement learned.
-/
namespace Go.Dm.Tc
theorem QN(a b c d:Int):iD ⟨a,b⟩ ⟨c,d⟩=(decide (a<c) || (decide (a=c) && decide (b<d))):=by
 unfold iD
 rw[Bool.eq_iff_iff]
 simp[hM]
theorem Hw(a b c d:Int):pcF D Ue [.agg [.int .i64 a,.int .i64 b],.agg [.int .i64 c,.int .i64 d]]=some (.bool (iD ⟨a,b⟩ ⟨c,d⟩)):=by
 unfold pcF
 rw[aP _ _ _ _ (by simp[Ue])]
 rw[QN]
 by_cases h1:a<c
 ·simp[Ue,h1]
 ·by_cases h2:a=c
  ·subst h2
   simp[Ue]
  ·simp[Ue,h1,h2]
theorem l196(h0:aA)(c s:Int)(t:Bool)(l:List bD)(hl:l.length≤1000000)(g1:h0.get 1=some (.arr 45 2 [.agg [.int .i64 c,.int .i64 s]] (some 1)))(aO:h0.lim=0) :
  ∀(rest:List bD) (i:Nat) (f:dJ) (h:aA),l.drop i=rest→f 3=.ptr 1 2 0 0→f 8=eL t 4 aJ l→f 9=.int .i64 l.length→f 10=.int .i64 i→Ext 2 h0 h →
  dY (fin [.t 4] (run D 21 [.block 0,.seq C7] (.loop Pk) f h))=some (.int .i64 (eM ((rest.findIdx? fun a=>a.id=⟨c,s⟩).map (·+i)))):=by
 intro rest
 induction rest with
 | nil =>
  intro i f h hd h3 h8 h9 jY hx
  have hi:=cY hd
  have:¬(i<l.length):=by omega
  rw[aC Pk.eq_1]
  simp[C7,h9,jY,this,eM]
 | cons e rest ih =>
  intro i f h hd h3 h8 h9 jY hx
  obtain⟨hi,he,fV⟩:=cN hd
  have No:=(hx.get 1 (by decide)).trans g1
  have hn:1≠h.n:=by have:=hx.le;omega
  have Dh:h.lim=0:=hx.lim.trans aO
  rw[aC Pk.eq_1]
  by_cases ht:e.id=⟨c,s⟩
  ·simp[h3,h8,h9,jY,hi,he,hn,No,aJ,Dh,ht,List.findIdx?_cons,eM]
  ·have GF:=En ht
   simp only at GF
   simp[h3,h8,h9,jY,hi,he,hn,No,aJ,Dh,GF]
   rw[bE (by omega) (by omega)]
   refine(ih (i+1) _ _ fV ?_ ?_ ?_ ?_ hx.push).trans ?_<;>simp[h3,h8,h9,List.findIdx?_cons,ht,aJ]
   congr 2
   funext q
   simp
   omega
theorem Ba(x0 x1 x3 x4 x5:DV)(t:Bool)(l:List bD)(c s:Int)(hl:l.length≤1000000) :
  pcF D Ud [.agg [x0,x1,eL t 4 aJ l,x3,x4,x5],.agg [.int .i64 c,.int .i64 s]]=some (.int .i64 (eM (l.findIdx? fun a=>a.id=⟨c,s⟩))):=by
 unfold pcF
 rw[aP _ _ _ _ (by simp[Ud])]
 simp[Ud]
 refine(l196 _ c s t l hl ?_ ?_ l 0 _ _ rfl ?_ ?_ ?_ ?_ (Ext.refl ?_ ?_)).trans ?_<;>simp
theorem l200(h0:aA)(c s:Int)(t:Bool)(l:List ID)(hl:l.length≤1000000)(g1:h0.get 1=some (.arr 45 2 [.agg [.int .i64 c,.int .i64 s]] (some 1)))(aO:h0.lim=0) :
  ∀(rest:List ID) (i:Nat) (f:dJ) (h:aA),l.drop i=rest→f 3=.ptr 1 2 0 0→f 8=eL t 2 eID l→f 9=.int .i64 l.length→f 10=.int .i64 i→Ext 2 h0 h →
  dY (fin [.t 4] (run D 18 [.block 0,.seq C6] (.loop Pg) f h))=some (.bool (decide (⟨c,s⟩∈rest))):=by
 intro rest
 induction rest with
 | nil =>
  intro i f h hd h3 h8 h9 jY hx
  have hi:=cY hd
  have:¬(i<l.length):=by omega
  rw[aC Pg.eq_1]
  simp[C6,h9,jY,this]
 | cons e rest ih =>
  intro i f h hd h3 h8 h9 jY hx
  obtain⟨hi,he,fV⟩:=cN hd
  have No:=(hx.get 1 (by decide)).trans g1
  have hn:1≠h.n:=by have:=hx.le;omega
  have Dh:h.lim=0:=hx.lim.trans aO
  rw[aC Pg.eq_1]
  by_cases ht:e=⟨c,s⟩
  ·simp[h3,h8,h9,jY,hi,he,hn,No,eID,Dh,ht]
  ·have GF:=En ht
   have ht2:¬(⟨c,s⟩:ID)=e:=fun q=>ht q.symm
   simp only at GF
   simp[h3,h8,h9,jY,hi,he,hn,No,eID,Dh,GF]
   rw[bE (by omega) (by omega)]
   refine(ih (i+1) _ _ fV ?_ ?_ ?_ ?_ hx.push).trans ?_<;>simp[h3,h8,h9,ht2,eID]
theorem c5(x0 x1 x2 x4 x5:DV)(t:Bool)(l:List ID)(c s:Int)(hl:l.length≤1000000) :
  pcF D AK [.agg [x0,x1,x2,eL t 2 eID l,x4,x5],.agg [.int .i64 c,.int .i64 s]]=some (.bool (decide (⟨c,s⟩∈l))):=by
 unfold pcF
 rw[aP _ _ _ _ (by simp[AK])]
 simp[AK]
 refine(l200 _ c s t l hl ?_ ?_ l 0 _ _ rfl ?_ ?_ ?_ ?_ (Ext.refl ?_ ?_)).trans ?_<;>simp
theorem Bi{α:Type}(cm:α→Int){l:List α}{i:Nat}{a:α}(jU:i≤aV cm l)(ha:l[i]?=some a):(cm a<0→i+1≤aV cm l)∧(¬cm a<0→aV cm l=i):=by
 have hi:i<l.length:=by
  by_cases h:i<l.length
  ·exact h
  ·rw[List.getElem?_eq_none (by omega)]at ha;cases ha
 have hb:∀q (hq:q<i),cm (l[q]'(by omega))<0:=fun q hq=>by
  have:=List.not_of_lt_findIdx (p:=fun x=>!decide (cm x<0)) (Nat.lt_of_lt_of_le hq jU)
  simpa using this
 have qA:l[i]=a:=by rw[List.getElem?_eq_getElem hi]at ha;injection ha
 constructor
 ·intro hc
  rcases Nat.lt_or_eq_of_le jU with h|h
  ·exact h
  ·exfalso
   have hk:aV cm l<l.length:=by omega
   have:=List.findIdx_getElem (p:=fun x=>!decide (cm x<0)) (w:=hk)
   have h2:¬cm l[aV cm l]<0:=by
    unfold aV
    simpa using this
   simp only[←h]at h2
   exact h2 (by rw[qA];exact hc)
 ·intro hc
  exact xW (Nat.le_of_lt hi) hb (fun _=>by rw[qA];exact hc)
end Go.Dm.Tc
/-
What the reference's functions compute,part 2: an advertisement learned.
-/
namespace Go.Dm.Tc
theorem Rs{α:Type}(cm:α→Int){l:List α}{i:Nat}{a:α}(aZ:i<aV cm l)(ha:l[i]?=some a):decide (cm a<0)=true:=by
 have hi:i<l.length:=by have:=eI cm l;omega
 have:=List.not_of_lt_findIdx (p:=fun b=>!decide (cm b<0)) (xs:=l) (i:=i) aZ
 rw[List.getElem?_eq_getElem hi]at ha
 injection ha with ha
 rw[ha]at this
 simpa using this
theorem l117(S:List Fr)(h:aA)(x0 x1 x2 x4 x5:DV)(t:Bool)(l:List ID)(c d:Int)(p q:DV)(ta tb:Nat)(hl:l.length≤1000000)
  (g0:h.get 0=some (.arr tb 6 [.agg [x0,x1,x2,eL t 2 eID l,x4,x5]] (some 1))) (g1:h.get 1=some (.arr ta 4 [.agg [.int .i64 c,.int .i64 d,p,q]] (some 1))) :
  ∀(n i:Nat) (f:dJ),aV (fun b=>bK b ⟨c,d⟩) l-i=n→i≤aV (fun b=>bK b ⟨c,d⟩) l→f 2=.ptr 0 6 0 0→f 3=.ptr 1 4 0 0→f 6=.int .i64 i →
  ∃ f',run D 79 (.block 0::.seq Px::S) (.loop Pw) f h=run D 79 S Px f' h∧f' 2=.ptr 0 6 0 0∧f' 3=.ptr 1 4 0 0∧f' 4=f 4∧f' 5=f 5∧f' 6=.int .i64 (aV (fun b=>bK b ⟨c,d⟩) l):=by
 intro n
 induction n with
 | zero =>
  intro i f hn hi h2 h3 h6
  have fY:aV (fun b=>bK b ⟨c,d⟩) l=i:=by omega
  rw[aC Pw.eq_1]
  by_cases aZ:i<l.length
  ·have WW:=Bi (fun b:ID=>bK b ⟨c,d⟩) hi (List.getElem?_eq_getElem aZ)
   have Zu:iD ⟨l[i].aW,l[i].seq⟩ ⟨c,d⟩=false:=by
    unfold iD
    simp only[decide_eq_false_iff_not]
    intro hc
    have:=WW.1 hc
    omega
   have qG:(i:Int)<l.length:=by omega
   simp[h2,h3,h6,g0,g1,aZ,eID,Ke,Hw,Zu]
   exact⟨_,rfl,by simp[h2],by simp[h3],by simp,by simp,by simp[h6,fY]⟩
  ·simp[h2,h3,h6,g0,g1,aZ]
   exact⟨_,rfl,by simp[h2],by simp[h3],by simp,by simp,by simp[h6,fY]⟩
 | succ n ih =>
  intro i f hn hi h2 h3 h6
  have aZ:i<l.length:=by have:=eI (fun b=>bK b ⟨c,d⟩) l;omega
  have Zu:iD ⟨l[i].aW,l[i].seq⟩ ⟨c,d⟩=true:=Rs (fun b:ID=>bK b ⟨c,d⟩) (by omega) (List.getElem?_eq_getElem aZ)
  rw[aC Pw.eq_1]
  simp[h2,h3,h6,g0,g1,aZ,eID,Ke,Hw,Zu]
  rw[bE (by omega) (by omega)]
  generalize hF:upd _ 6 _=F
  obtain⟨f',k1,k2,k3,k4,k5,k6⟩:=ih (i+1) F (by omega) (by omega) (by rw[←hF];simp[h2]) (by rw[←hF];simp[h3]) (by rw[←hF];simp)
  exact⟨f',k1,k2,k3,by rw[k4,←hF];simp,by rw[k5,←hF];simp,k6⟩
theorem m117(S:List Fr)(h:aA)(x0 x1 x3 x4 x5:DV)(t:Bool)(l:List bD)(c d:Int)(p q:DV)(ta tb:Nat)(hl:l.length≤1000000)
  (g0:h.get 0=some (.arr tb 6 [.agg [x0,x1,eL t 4 aJ l,x3,x4,x5]] (some 1))) (g1:h.get 1=some (.arr ta 4 [.agg [.int .i64 c,.int .i64 d,p,q]] (some 1))) :
  ∀(n i:Nat) (f:dJ),aV (fun b=>bK b.id ⟨c,d⟩) l-i=n→i≤aV (fun b=>bK b.id ⟨c,d⟩) l→f 2=.ptr 0 6 0 0→f 3=.ptr 1 4 0 0→f 6=.int .i64 i →
  ∃ f',run D 79 (.block 2::.seq Py::S) (.loop Pv) f h=run D 79 S Py f' h∧f' 2=.ptr 0 6 0 0∧f' 3=.ptr 1 4 0 0∧f' 4=f 4∧f' 5=f 5∧f' 6=.int .i64 (aV (fun b=>bK b.id ⟨c,d⟩) l):=by
 intro n
 induction n with
 | zero =>
  intro i f hn hi h2 h3 h6
  have fY:aV (fun b=>bK b.id ⟨c,d⟩) l=i:=by omega
  rw[aC Pv.eq_1]
  by_cases aZ:i<l.length
  ·have WW:=Bi (fun b:bD=>bK b.id ⟨c,d⟩) hi (List.getElem?_eq_getElem aZ)
   have Zu:iD ⟨l[i].id.aW,l[i].id.seq⟩ ⟨c,d⟩=false:=by
    unfold iD
    simp only[decide_eq_false_iff_not]
    intro hc
    have:=WW.1 hc
    omega
   simp[h2,h3,h6,g0,g1,aZ,aJ,Ke,Hw,Zu]
   exact⟨_,rfl,by simp[h2],by simp[h3],by simp,by simp,by simp[h6,fY]⟩
  ·simp[h2,h3,h6,g0,g1,aZ]
   exact⟨_,rfl,by simp[h2],by simp[h3],by simp,by simp,by simp[h6,fY]⟩
 | succ n ih =>
  intro i f hn hi h2 h3 h6
  have aZ:i<l.length:=by have:=eI (fun b:bD=>bK b.id ⟨c,d⟩) l;omega
  have Zu:iD ⟨l[i].id.aW,l[i].id.seq⟩ ⟨c,d⟩=true:=Rs (fun b:bD=>bK b.id ⟨c,d⟩) (by omega) (List.getElem?_eq_getElem aZ)
  rw[aC Pv.eq_1]
  simp[h2,h3,h6,g0,g1,aZ,aJ,Ke,Hw,Zu]
  rw[bE (by omega) (by omega)]
  generalize hF:upd _ 6 _=F
  obtain⟨f',k1,k2,k3,k4,k5,k6⟩:=ih (i+1) F (by omega) (by omega) (by rw[←hF];simp[h2]) (by rw[←hF];simp[h3]) (by rw[←hF];simp)
  exact⟨f',k1,k2,k3,by rw[k4,←hF];simp,by rw[k5,←hF];simp,k6⟩
theorem s117(b:aF)(c d:Int)(p:bN)(q:Int)(hs:jF b)(ra:dB (b.aG.map (·.id)))(rs:dB b.seen) :
  pcF D Pz [aI .none b,.agg [.int .i64 c,.int .i64 d,bQ p,.int .i64 q]]=some (.tup [aI .none (bX b ⟨⟨c,d⟩,p,q⟩).1,.bool (bX b ⟨⟨c,d⟩,p,q⟩).2]):=by
 obtain⟨me,aL,adv,seen,ent,own⟩:=b
 obtain⟨z1,z2,z3,z4,z5⟩:=hs
 simp only at z1 z2 z3 z4 z5 ra rs
 obtain⟨R,hR⟩:∃ R,R=DV.tup [aI .none (bX ⟨me,aL,adv,seen,ent,own⟩ ⟨⟨c,d⟩,p,q⟩).1,.bool (bX ⟨me,aL,adv,seen,ent,own⟩ ⟨⟨c,d⟩,p,q⟩).2]:=⟨_,rfl⟩
 rw[←hR]
 have hsl:seen.length≤1000000:=by omega
 have Lz:adv.length≤1000000:=by omega
 unfold pcF
 rw[aP _ _ _ _ (by simp[Pz])]
 by_cases hm:(⟨c,d⟩:ID)∈seen
 ·simp[Pz,aI,dZ.none,t7,c5,hsl,hm,aT]
  simp[hR,bX,hm,dZ.none,aI]
 ·simp[Pz,aI,dZ.none,t7,c5,hsl,hm]
  generalize hF:upd _ 6 _=F
  obtain⟨f1,k1,k2,k3,k4,k5,k6⟩:=l117 [] (.int .i64 me) (eL false 1 cF aL) (eL false 4 aJ adv) (eL false 7 aN ent) (eL false 3 cB own) false seen c d (bQ p) (.int .i64 q) 68 37 hsl (h:=((pY.push (.arr 37 6 [.agg [.int .i64 me,eL false 1 cF aL,eL false 4 aJ adv,eL false 2 eID seen,eL false 7 aN ent,eL false 3 cB own]] (some 1))).push (.arr 68 4 [.agg [.int .i64 c,.int .i64 d,bQ p,.int .i64 q]] (some 1))).push (.arr 37 6 [.agg [.int .i64 0,.nsl,.nsl,.nsl,.nsl,.nsl]] (some 1))) (by simp) (by simp) _ 0 F rfl (by omega) (by rw[←hF];simp) (by rw[←hF];simp) (by rw[←hF];simp)
  rw[k1]
  rw[←hF]at k4 k5
  simp at k4 k5
  clear hF k1
  have jU:=eI (fun b=>bK b ⟨c,d⟩) seen
  have hlow2:=eI (fun b:bD=>bK b.id ⟨c,d⟩) adv
  simp[Px,k2,k3,k4,k5,k6,jU]
  generalize hA:aU _ _ _ _ _ _=A
  obtain⟨i1,K1,rfl,o1,x1,y1,j1⟩:=(dL.fresh (lo:=3) (ety:=45) (sz:=2) (xs:=[]) (cap:=some 0) (by simp) (by simp)).append (n:=0) rfl (by simp) (by simp) (by simp) hA (by simp;omega) (by decide)
  clear hA
  have a0:=x1.get 0 (by decide)
  have a1:=x1.get 1 (by decide)
  have a2:=x1.get 2 (by decide)
  have q1:=x1.lim
  have w1:=x1.wf
  have n1:=x1.le
  have u1:=o1.lo
  have m0:¬0=i1:=by omega
  have m1:¬i1=0:=by omega
  have m2:¬i1=1:=by omega
  have m3:¬1=i1:=by omega
  simp at a0 a1 a2 q1 o1
  simp[k2,k3,a0,a1,a2,q1,m0,m1,m2,m3,jU]
  generalize hA:aU _ _ _ _ _ _=A
  obtain⟨i2,K2,rfl,o2,x2,y2,j2⟩:=(o1.push (o:=_)).append (by simp[jU]) (by simp[w1]) (by simp;omega) (by simp[q1]) hA (by simp;omega) (by decide)
  clear hA
  have b0:=x2.get 0 (by decide)
  have b1:=x2.get 1 (by decide)
  have b2:=x2.get 2 (by decide)
  have q2:=x2.lim
  have w2:=x2.wf
  have n2:=x2.le
  have u2:=o2.lo
  have c0:¬0=K1.n:=by omega
  have c1:¬1=K1.n:=by omega
  have c2:¬2=K1.n:=by omega
  have m4:¬i2=0:=by omega
  have m5:¬i2=1:=by omega
  simp[a0,a1,a2,q1,c0,c1,c2]at b0 b1 b2 q2 o2
  simp[k2,k3,k6,b0,b1,b2,q2,m0,m1,m2,m3,m4,m5,jU]
  generalize hA:aU _ _ _ _ _ _=A
  obtain⟨i3,K3,rfl,o3,x3,y3,j3⟩:=o2.append (by simp[jU]) w2 n2 (by omega) hA (by simp;omega) (by decide)
  clear hA
  have d0:=x3.get 0 (by decide)
  have d1:=x3.get 1 (by decide)
  have d2:=x3.get 2 (by decide)
  have q3:=x3.lim
  have w3:=x3.wf
  have n3:=x3.le
  have l3:0<K3.n:=by omega
  rw[b0]at d0
  rw[b1]at d1
  rw[b2]at d2
  rw[q2]at q3
  have cM:(List.take (aV (fun b=>bK b ⟨c,d⟩) seen) (List.map eID seen)++[DV.agg [.int .i64 c,.int .i64 d]]++List.drop (aV (fun b=>bK b ⟨c,d⟩) seen) (List.map eID seen))=(iK (fun x=>x) ⟨c,d⟩ seen).map eID:=by simp[iK,eID]
  have o3':dL 3 K3 i3 45 2 ((iK (fun x=>x) ⟨c,d⟩ seen).map eID):=by rw[←cM];simpa using o3
  simp[k2,k3,b0,d0,q3,w3,l3,turn]
  generalize hF:upd _ 6 _=F
  generalize hK:K3.set 0 _=K4
  have oG:min (aV (fun b=>bK b ⟨c,d⟩) seen) seen.length=aV (fun b=>bK b ⟨c,d⟩) seen:=by omega
  have e0:K4.get 0=some (.arr 37 6 [.agg [.int .i64 me,eL false 1 cF aL,eL false 4 aJ adv,.sl i3 2 0 ((iK (fun x=>x) ⟨c,d⟩ seen).map eID).length,eL false 7 aN ent,eL false 3 cB own]] (some 1)):=by
   rw[←hK];simp[w3,l3,oG,iK];omega
  have e1:K4.get 1=some (.arr 68 4 [.agg [.int .i64 c,.int .i64 d,bQ p,.int .i64 q]] (some 1)):=by
   rw[←hK];simp[w3,l3,d1]
  have e2:K4.get 2=some (.arr 37 6 [.agg [.int .i64 0,.nsl,.nsl,.nsl,.nsl,.nsl]] (some 1)):=by
   rw[←hK];simp[w3,l3,d2]
  have w4:WF K4:=by rw[←hK];exact w3.set
  have q4:K4.lim=0:=by rw[←hK];exact q3
  have n4:3≤K4.n:=by rw[←hK];exact n3
  have o4:dL 3 K4 i3 45 2 ((iK (fun x=>x) ⟨c,d⟩ seen).map eID):=by rw[←hK];exact o3'.bU w3 (by decide) l3
  have hF2:F 2=.ptr 0 6 0 0:=by rw[←hF];simp[k2]
  have hF3:F 3=.ptr 1 4 0 0:=by rw[←hF];simp[k3]
  have hF4:F 4=.ptr 2 6 0 0:=by rw[←hF];simp[k4]
  have hF5:F 5=.bool false:=by rw[←hF];simp[k5]
  have hF6:F 6=.int .i64 ((0:Nat):Int):=by rw[←hF];simp
  clear hF hK d0 d1 d2 q3 w3 n3 l3 o3 o3' x3 y3 j3 b0 b1 b2 q2 w2 n2 u2 x2 y2 j2 o2 a0 a1 a2 q1 w1 n1 u1 x1 y1 j1 o1 c0 c1 c2 m0 m1 m2 m3 m4 m5 k2 k3 k4 k5 k6 cM
  obtain⟨f2,k1,k2,k3,k4,k5,k6⟩:=m117 [] K4 _ _ _ _ _ false adv c d (bQ p) (.int .i64 q) _ _ Lz e0 e1 _ 0 F rfl (by omega) hF2 hF3 hF6
  rw[k1]
  rw[hF4]at k4
  rw[hF5]at k5
  have u3:=o4.lo
  have v0:¬0=K4.n:=by omega
  have v1:¬1=K4.n:=by omega
  have v2:¬2=K4.n:=by omega
  have v3:¬K4.n=0:=by omega
  have v4:¬K4.n=1:=by omega
  simp[Py,k2,k3,k4,k5,k6,hlow2,e0,e1,e2,q4,w4,v0,v1,v2,v3,v4]
  generalize hA:aU _ _ _ _ _ _=A
  obtain⟨i1,K1,rfl,o1,x1,y1,j1⟩:=(dL.fresh (lo:=3) (ety:=68) (sz:=4) (xs:=[]) (cap:=some 0) (by omega) n4).append (n:=0) rfl w4.push (by simp;omega) (by simp[q4]) hA (by simp;omega) (by decide)
  clear hA
  have a0:=x1.get 0 (by decide)
  have a1:=x1.get 1 (by decide)
  have a2:=x1.get 2 (by decide)
  have q1:=x1.lim
  have w1:=x1.wf
  have n1:=x1.le
  have u1:=o1.lo
  have m0:¬0=i1:=by omega
  have m1:¬i1=0:=by omega
  have m2:¬i1=1:=by omega
  have m3:¬1=i1:=by omega
  simp[e0,e1,e2,v0,v1,v2,q4]at a0 a1 a2 q1 o1
  have s1:=(o4.push).keep y1 x1.lim (by decide)
  simp[k2,k3,e0,e1,e2,a0,a1,a2,q1,m0,m1,m2,m3,v3,v4,hlow2]
  generalize hA:aU _ _ _ _ _ _=A
  obtain⟨i2,K2,rfl,o2,x2,y2,j2⟩:=(o1.push (o:=_)).append (by simp[hlow2]) (by simp[w1]) (by simp;omega) (by simp[q1]) hA (by simp;omega) (by decide)
  clear hA
  have b0:=x2.get 0 (by decide)
  have b1:=x2.get 1 (by decide)
  have b2:=x2.get 2 (by decide)
  have q2:=x2.lim
  have w2:=x2.wf
  have n2:=x2.le
  have u2:=o2.lo
  have c0:¬0=K1.n:=by omega
  have c1:¬1=K1.n:=by omega
  have c2:¬2=K1.n:=by omega
  have m4:¬i2=0:=by omega
  have m5:¬i2=1:=by omega
  simp[a0,a1,a2,q1,c0,c1,c2]at b0 b1 b2 q2 o2
  have s2:=(s1.push).keep y2 x2.lim (by decide)
  simp[k2,k3,k6,e0,e1,b0,b1,b2,q2,m0,m1,m2,m3,m4,m5,v3,v4,hlow2]
  generalize hA:aU _ _ _ _ _ _=A
  obtain⟨i4,K3,rfl,o3,x3,y3,j3⟩:=o2.append (by simp[hlow2]) w2 n2 (by omega) hA (by simp;omega) (by decide)
  clear hA
  have d0:=x3.get 0 (by decide)
  have d2:=x3.get 2 (by decide)
  have q3:=x3.lim
  have w3:=x3.wf
  have n3:=x3.le
  have l3:0<K3.n:=by omega
  have l32:2<K3.n:=by omega
  rw[b0]at d0
  rw[b2]at d2
  rw[q2]at q3
  have s3:=s2.keep y3 x3.lim (by decide)
  have cM:(List.take (aV (fun b:bD=>bK b.id ⟨c,d⟩) adv) (List.map aJ adv)++DV.agg [.int .i64 c,.int .i64 d,bQ p,.int .i64 q]::List.drop (aV (fun b:bD=>bK b.id ⟨c,d⟩) adv) (List.map aJ adv))=(iK (fun a=>a.id) ⟨⟨c,d⟩,p,q⟩ adv).map aJ:=by simp[iK,aJ]
  simp only[List.append_assoc,List.singleton_append]at o3
  rw[cM]at o3
  have hmin2:min (aV (fun b:bD=>bK b.id ⟨c,d⟩) adv) adv.length=aV (fun b:bD=>bK b.id ⟨c,d⟩) adv:=by omega
  have ED:(iK (fun a=>a.id) ⟨⟨c,d⟩,p,q⟩ adv).length=aV (fun b:bD=>bK b.id ⟨c,d⟩) adv+1+(adv.length-aV (fun b:bD=>bK b.id ⟨c,d⟩) adv):=by simp[iK,hmin2];omega
  have r3:=fun o o'=>((o3.toR.bU (o:=o) w3 (by decide) l3).bU (o:=o') w3.set (by decide) l32).resolve (n:=198) false (fun y _=>(qE y).1) (by decide)
  have r4:=fun o o'=>((s3.toR.bU (o:=o) w3 (by decide) l3).bU (o:=o') w3.set (by decide) l32).resolve (n:=198) false (fun y _=>(Ii y).1) (by decide)
  simp only[List.length_map,ED]at r3
  simp only[List.length_map]at r4
  simp[k2,k3,k4,k5,e0,b0,d0,d2,q3,w3,l3,l32,turn,hmin2,v3,v4,m1,m4,r3,r4,aT]
  simp[hR,bX,hm,dZ.none,aI]
end Go.Dm.Tc
/-
What functions of the program compute,part 9: what may be a name,a constraint,a predicate.
-/
namespace Go.Dm.Tc
def mZ(s:List UInt8):Bool:=s.all fun b=>decide (97≤b.toNat) && decide (b.toNat≤122)
def zS(s:List UInt8):Bool:=mZ s && !decide (s=[]) && decide (s.length≤12)
theorem l204(xs:List UInt8)(hl:xs.length≤1000000) :
  ∀(rest:List UInt8) (i:Nat) (f:dJ) (h:aA),xs.drop i=rest→f 0=.str xs→f 5=.int .i64 xs.length→f 6=.int .i64 i →
  dY (fin [.t 2] (run D 27 [.block 0,.seq Pd] (.loop Pc) f h))=some (.bool (mZ rest && !decide (xs=[]) && decide (xs.length≤12))):=by
 intro rest
 induction rest with
 | nil =>
  intro i f h hd h0 h5 h6
  have hi:=cY hd
  have:¬(i<xs.length):=by omega
  rw[aC Pc.eq_1]
  by_cases hx:xs=[]
  ·subst hx
   have h0i:¬(i:Int)<0:=by omega
   simp[Pd,h0,h5,h6,h0i,mZ]
  ·have hb:(xs == ([]:List UInt8))=false:=by cases xs<;>simp_all
   simp[Pd,h0,h5,h6,this,hx,hb,mZ]
   omega
 | cons e rest ih =>
  intro i f h hd h0 h5 h6
  obtain⟨hi,he,fV⟩:=cN hd
  have hq:∀k,qO (.str xs) (.int k (i:Int))=some (.int .u8 e.toNat):=fun k=>Ls xs k i (by rw[List.getElem?_eq_getElem hi,he])
  rw[aC Pc.eq_1]
  by_cases h1:e.toNat<97
  ·have Jm:(e.toNat:Int)<97:=by omega
   have cT:mZ (e::rest)=false:=by
    have:¬97≤e.toNat:=by omega
    simp only[mZ,List.all_cons,decide_eq_false this,Bool.false_and]
   simp[h0,h5,h6,hi,hq,Jm,cT]
  ·have Jm:¬(e.toNat:Int)<97:=by omega
   by_cases h2:122<e.toNat
   ·have TK:(122:Int)<e.toNat:=by omega
    have cT:mZ (e::rest)=false:=by
     have:¬e.toNat≤122:=by omega
     simp only[mZ,List.all_cons,decide_eq_false this,Bool.and_false,Bool.false_and]
    simp[h0,h5,h6,hi,hq,Jm,TK,cT]
   ·have TK:¬(122:Int)<e.toNat:=by omega
    have cT:mZ (e::rest)=mZ rest:=by
     have q1:97≤e.toNat:=by omega
     have q2:e.toNat≤122:=by omega
     simp only[mZ,List.all_cons,decide_eq_true q1,decide_eq_true q2,Bool.true_and]
    simp[h0,h5,h6,hi,hq,Jm,TK,cT]
    rw[bE (by omega) (by omega)]
    refine(ih (i+1) _ h fV ?_ ?_ ?_).trans ?_<;>simp[h0,h5]
theorem Hv(xs:List UInt8)(hl:xs.length≤1000000):pcF D AJ [.str xs]=some (.bool (zS xs)):=by
 unfold pcF
 rw[aP _ _ _ _ (by simp[AJ])]
 simp[AJ]
 refine(l204 xs hl xs 0 _ _ rfl ?_ ?_ ?_).trans ?_<;>simp[zS]
def cX(c : kM) : Bool :=
  zS c.name &&
    (if c.kind = 1 then decide (c.lo ≤ c.hi) && decide (c.text = [])
     else if c.kind = 3 then !decide (c.text.length = 12) && (decide (c.lo = 0) && decide (c.hi = 0) && decide (c.text.length ≤ 12))
     else if c.kind = 2 then decide (c.lo = 0) && decide (c.hi = 0) && decide (c.text.length ≤ 12)
     else false)
theorem PJ(nm:List UInt8)(k lo hi:Int)(tx:List UInt8)(hl:nm.length≤1000000) :
  pcF D yH [.agg [.str nm,.int .i64 k,.int .i64 lo,.int .i64 hi,.str tx]]=some (.bool (cX ⟨nm,k,lo,hi,tx⟩)):=by
 unfold pcF
 rw[aP _ _ _ _ (by simp[yH])]
 cases hn:zS nm with
 | false=>simp[yH,Kc,Hv,hl,hn,cX]
 | true =>
  have cM:∀n:Nat,((tx.length:Int) == (n:Int))=decide (tx.length=n):=fun n=>by
   by_cases h:tx.length=n
   ·simp[h]
   ·have h':¬(tx.length:Int)=n:=by omega
    simp[h,h']
  have N2:(tx == ([]:List UInt8))=decide (tx=[]):=by cases tx<;>simp
  by_cases k1:k=1
  ·subst k1
   by_cases h1:lo≤hi
   ·simp[yH,Kc,Hv,hl,hn,cX,h1,N2]
   ·simp[yH,Kc,Hv,hl,hn,cX,h1,N2]
  ·by_cases k3:k=3
   ·subst k3
    by_cases pS:tx.length=12
    ·simp[yH,Kc,Hv,hl,hn,cX,pS]
    ·have h12':¬(tx.length:Int)=12:=by omega
     by_cases fY:lo=0
     ·by_cases Fo:hi=0
      ·simp[yH,Kc,Hv,hl,hn,cX,pS,h12',fY,Fo]
       omega
      ·simp[yH,Kc,Hv,hl,hn,cX,pS,h12',fY,Fo]
     ·simp[yH,Kc,Hv,hl,hn,cX,pS,h12',fY]
   ·by_cases k2:k=2
    ·subst k2
     by_cases fY:lo=0
     ·by_cases Fo:hi=0
      ·simp[yH,Kc,Hv,hl,hn,cX,fY,Fo]
       omega
      ·simp[yH,Kc,Hv,hl,hn,cX,fY,Fo]
     ·simp[yH,Kc,Hv,hl,hn,cX,fY]
    ·simp[yH,Kc,Hv,hl,hn,cX,k1,k2,k3]
def iB:Option (List UInt8)→bN→Bool
 | _,[]=>true
 | prev,c::r=>cX c && (match prev with|none=>true|some n=>Go.Op.bytesLess n c.name) && iB (some c.name) r
def kO(p:bN):Bool:=iB none p && decide (p.length≤5)
def sU(p:bN):Prop:=p.length≤1000000∧∀c∈p,c.name.length≤1000000
theorem l125(p:bN)(hp:sU p) :
  ∀(rest:bN) (prev:Option (List UInt8)) (i:Nat) (f:dJ) (h:aA),p.drop i=rest→((i=0∧prev=none)∨∃ j c,i=j+1∧p[j]?=some c∧prev=some c.name) →
   f 0=eL false 5 bC p→f 5=eL false 5 bC p→f 6=.int .i64 p.length→f 7=.int .i64 i→h.lim=0 →
  dY (fin [.t 2] (run D 34 [.block 0,.seq D1] (.loop Pt) f h))=some (.bool (iB prev rest && decide (p.length≤5))):=by
 obtain⟨hp1,NM⟩:=hp
 intro rest
 induction rest with
 | nil =>
  intro prev i f h hd hv h0 h5 h6 h7 aO
  have hi:=cY hd
  have:¬(i<p.length):=by omega
  rw[aC Pt.eq_1]
  simp[D1,h0,h6,h7,this,iB]
  omega
 | cons c rest ih =>
  intro prev i f h hd hv h0 h5 h6 h7 aO
  obtain⟨hi,he,fV⟩:=cN hd
  have W2:c.name.length≤1000000:=NM c (by rw[←he];exact List.getElem_mem hi)
  rw[aC Pt.eq_1]
  cases hr:cX c with
  | false =>
   have vN:cX ⟨c.name,c.kind,c.lo,c.hi,c.text⟩=false:=hr
   simp[h0,h5,h6,h7,hi,he,aO,bC,RZ,PJ,W2,vN,iB,hr]
  | true =>
   have vN:cX ⟨c.name,c.kind,c.lo,c.hi,c.text⟩=true:=hr
   rcases hv with⟨i0,hpv⟩|⟨j,c0,ij,hj,hpv⟩
   ·subst hpv
    have qY:¬0<i:=by omega
    simp[h0,h5,h6,h7,hi,he,aO,bC,RZ,PJ,W2,vN,qY]
    rw[bE (by omega) (by omega)]
    refine(ih (some c.name) (i+1) _ _ fV (.inr ⟨i,c,rfl,by rw[List.getElem?_eq_getElem hi,he],rfl⟩) ?_ ?_ ?_ ?_ ?_).trans ?_<;>simp[h0,h5,h6,bC,aO,iB,hr]
   ·subst hpv
    subst ij
    have qY:(0:Int)<(j:Int)+1:=by omega
    have hw:IntKind.i64.wrap (j:Int)=j:=bE (by omega) (by omega)
    have hjj:j<p.length:=by omega
    have aZ:(j:Int)+1<p.length:=by omega
    have sQ:p[j]=c0:=by rw[List.getElem?_eq_getElem hjj]at hj;exact Option.some.inj hj
    cases hb:Go.Op.bytesLess c0.name c.name with
    | false=>simp[h0,h5,h6,h7,hi,he,aO,bC,RZ,PJ,W2,vN,qY,aZ,hw,hjj,sQ,hb,iB]
    | true =>
     simp[h0,h5,h6,h7,hi,he,aO,bC,RZ,PJ,W2,vN,qY,aZ,hw,hjj,sQ,hb]
     rw[bE (by omega) (by omega)]
     refine(ih (some c.name) (j+1+1) _ _ fV (.inr ⟨j+1,c,rfl,by rw[List.getElem?_eq_getElem hi,he],rfl⟩) ?_ ?_ ?_ ?_ ?_).trans ?_<;>simp[h0,h5,h6,bC,aO,iB,hr,hb]
theorem VS(p:bN)(hp:sU p):pcF D BK [bQ p]=some (.bool (kO p)):=by
 unfold pcF
 rw[aP _ _ _ _ (by simp[BK])]
 simp only[bQ]
 simp[BK]
 refine(l125 p hp p none 0 _ _ rfl (.inl ⟨rfl,rfl⟩) ?_ ?_ ?_ ?_ ?_).trans ?_<;>simp[kO]
end Go.Dm.Tc
/-
What functions of the program compute,part 10: is a broker right?
-/
namespace Go.Dm.Tc
def jJ(b:aF)(n:Int):Bool:=decide (n=-1) || b.aL.contains n
theorem d8(x0 x2 x3 x4 x5:DV)(t:Bool)(l:List Int)(n:Int)(hl:l.length≤1000000) :
  pcF D D0 [.agg [x0,eL t 1 cF l,x2,x3,x4,x5],.int .i64 n]=some (.bool (decide (n=-1) || l.contains n)):=by
 unfold pcF
 rw[aP _ _ _ _ (by simp[D0])]
 by_cases h:n=-1
 ·simp[D0,h]
 ·simp[D0,h,e221,s221,hl]
theorem s145(a b:Int):pcF D BI [.int .i64 a,.int .i64 b]=some (.bool (decide (a<b))):=by
 unfold pcF
 rw[aP _ _ _ _ (by simp[BI])]
 simp[BI]
theorem s149(a b c d:Int)(p q r s:DV):pcF D BE [.agg [.int .i64 a,.int .i64 b,p,q],.agg [.int .i64 c,.int .i64 d,r,s]]=some (.bool (iD ⟨a,b⟩ ⟨c,d⟩)):=by
 unfold pcF
 rw[aP _ _ _ _ (by simp[BE])]
 simp[BE,XV,VQ]
theorem s151(a b c d:Int)(p r:DV):pcF D BC [.agg [.int .i64 a,.int .i64 b,p],.agg [.int .i64 c,.int .i64 d,r]]=some (.bool (iD ⟨a,b⟩ ⟨c,d⟩)):=by
 unfold pcF
 rw[aP _ _ _ _ (by simp[BC])]
 simp[BC,XV,VQ]
def SH(t1 s1 t2 s2:ID):Int:=orI (bK t1 t2) (bK s1 s2)
def ltE(x y:bB):Bool:=decide (SH x.tree x.sub y.tree y.sub<0)
theorem s153(a b c d a' b' c' d':Int)(p q r p' q' r':DV) :
  pcF D BA [.agg [.int .i64 a,.int .i64 b,.int .i64 c,.int .i64 d,p,q,r],.agg [.int .i64 a',.int .i64 b',.int .i64 c',.int .i64 d',p',q',r']]=some (.bool (decide (SH ⟨a,b⟩ ⟨c,d⟩ ⟨a',b'⟩ ⟨c',d'⟩<0))):=by
 unfold pcF
 rw[aP _ _ _ _ (by simp[BA])]
 simp[BA,SA,PL,SD,mkIsl,PM,SH]
 exact decide_eq_decide.2 Iff.rfl
theorem Cz{α:Type}{key:α→ID}:∀{l:List α},cH (fun x y=>iD (key x) (key y)) l=true→dB (l.map key)
 | [],_=>List.Pairwise.nil
 | [a],_=>by simp[dB]
 | a::b::r,h=>by
  simp only[cH,Bool.and_eq_true]at h
  have ih:dB ((b::r).map key):=Cz h.2
  have h1:bK (key a) (key b)<0:=by simpa[iD]using h.1
  unfold dB at *
  rw[List.map_cons,List.pairwise_cons]
  refine⟨fun x hx=>?_,ih⟩
  rw[List.map_cons]at hx ih
  rcases List.mem_cons.1 hx with rfl|hx
  ·exact h1
  ·exact wY h1 ((List.pairwise_cons.1 ih).1 x hx)
theorem qM{α:Type}{key:α→ID}:∀{l:List α},dB (l.map key)→cH (fun x y=>iD (key x) (key y)) l=true
 | [],_=>rfl
 | [a],_=>rfl
 | a::b::r,h=>by
  unfold dB at h
  rw[List.map_cons,List.pairwise_cons]at h
  simp only[cH,Bool.and_eq_true]
  refine⟨?_,qM (l:=b::r) h.2⟩
  have:=h.1 (key b) (by simp)
  simpa[iD]using this
def eU(b:aF)(e:bB):Bool :=
 match b.aG.find? (fun a=>a.id=e.tree)with
 | none=>false
 | some a=>jJ b e.cJ && (!decide (e.cJ=a.bP) || decide (a.bP=-1)) && !(e.up && decide (a.bP=-1)) && kO e.pred
theorem s161(me:Int)(x3 x4 x5:DV)(t u:Bool)(aL:List Int)(l:List bD)(e:bB)(b:aF)(hb:b.aL=aL)(hb2:b.aG=l)(hr:dB (l.map (·.id)))(hl:l.length≤1000000)(hn:aL.length≤1000000)(f3:gP 20 x3)(f4:gP 20 x4)(f5:gP 20 x5)(hp:sU e.pred) :
  pcF D Cu [.agg [.int .i64 me,eL u 1 cF aL,eL t 4 aJ l,x3,x4,x5],.agg [.int .i64 e.tree.aW,.int .i64 e.tree.seq,.int .i64 e.sub.aW,.int .i64 e.sub.seq,bQ e.pred,.int .i64 e.cJ,.bool e.up]]=some (.bool (eU b e)):=by
 have g3:∀tg h,resolve tg h 199 x3=some x3:=fun tg h=>f3 _ _ _ (by decide)
 have g4:∀tg h,resolve tg h 199 x4=some x4:=fun tg h=>f4 _ _ _ (by decide)
 have g5:∀tg h,resolve tg h 199 x5=some x5:=fun tg h=>f5 _ _ _ (by decide)
 have TG:=fun c d=>s30 (.int .i64 me) (eL u 1 cF aL) x3 x4 x5 t l c d hr hl ((iS _ _).mono (by decide)) ((sF _ _ _ _).mono (by decide)) f3 f4 f5
 subst hb
 subst hb2
 unfold pcF
 rw[aP _ _ _ _ (by simp[Cu])]
 cases hq:b.aG.find? (fun a=>a.id=⟨e.tree.aW,e.tree.seq⟩)with
 | none =>
  have tJ:b.aG.find? (fun a=>a.id=e.tree)=none:=hq
  simp[Cu,g3,g4,g5,e30,TG,hq,lX,vK,aJ,turn,eU,tJ]
 | some a =>
  have tJ:b.aG.find? (fun a=>a.id=e.tree)=some a:=hq
  have Xm:=d8 (.int .i64 me) (eL t 4 aJ b.aG) x3 x4 x5 u b.aL e.cJ hn
  have WY:=VS e.pred hp
  obtain⟨L,hL⟩:∃ L,(decide (e.cJ=-1) || b.aL.contains e.cJ)=L:=⟨_,rfl⟩
  obtain⟨R,hR⟩:∃ R,kO e.pred=R:=⟨_,rfl⟩
  rw[hL]at Xm
  rw[hR]at WY
  have hlkB:jJ b e.cJ=L:=hL
  cases L with
  | false=>simp[Cu,g3,g4,g5,e30,TG,hq,lX,aJ,turn,eU,tJ,Yn,Xm,hlkB]
  | true =>
   by_cases yU:a.bP=-1
   ·cases vM:e.up with
    | true =>
     by_cases Xq:e.cJ=-1
     ·simp[Cu,g3,g4,g5,e30,TG,hq,lX,aJ,turn,eU,tJ,Yn,Xm,hlkB,yU,eq_true Xq,vM]
     ·simp[Cu,g3,g4,g5,e30,TG,hq,lX,aJ,turn,eU,tJ,Yn,Xm,hlkB,yU,Xq,vM]
    | false =>
     by_cases Xq:e.cJ=-1
     ·cases R<;>simp[Cu,g3,g4,g5,e30,TG,hq,lX,aJ,turn,eU,tJ,Yn,Xm,hlkB,yU,eq_true Xq,vM,LX,WY,hR]
     ·cases R<;>simp[Cu,g3,g4,g5,e30,TG,hq,lX,aJ,turn,eU,tJ,Yn,Xm,hlkB,yU,Xq,vM,LX,WY,hR]
   ·by_cases Xq:e.cJ=a.bP
    ·simp[Cu,g3,g4,g5,e30,TG,hq,lX,aJ,turn,eU,tJ,Yn,Xm,hlkB,yU,eq_true Xq]
    ·cases vM:e.up<;>cases R<;>simp[Cu,g3,g4,g5,e30,TG,hq,lX,aJ,turn,eU,tJ,Yn,Xm,hlkB,yU,Xq,vM,LX,WY,hR]
end Go.Dm.Tc
/-
What functions of the program compute,part 11: is a broker right? All of it.
-/
namespace Go.Dm.Tc
structure Dx(b:aF):Prop where
 adv:∀x∈b.aG,sU x.pred
 ent:∀x∈b.entries,sU x.pred
 own:∀x∈b.bJ,sU x.pred
def mT(b:aF)(a:bD):Bool:=decide (a.id∈b.seen) && jJ b a.bP && kO a.pred
def gR(t:dZ)(b:aF):List DV:=[.int .i64 b.me,eL t.aL 1 cF b.aL,eL t.aG 4 aJ b.aG,eL t.seen 2 eID b.seen,eL t.entries 7 aN b.entries,eL t.bJ 3 cB b.bJ]
theorem s156(tg:Bool)(t:dZ)(b:aF)(a:bD)(hs:jF b)(hr:dB b.seen)(hp:sU a.pred) :
  pcF D AX [.agg [.int .i64 a.id.aW,.int .i64 a.id.seq,bQ a.pred,.int .i64 a.bP],.iptr tg [.int .i64 b.me,eL t.aL 1 cF b.aL,eL t.aG 4 aJ b.aG,eL t.seen 2 eID b.seen,eL t.entries 7 aN b.entries,eL t.bJ 3 cB b.bJ] 0]=some (.bool (!mT b a)):=by
 obtain⟨z1,z2,z3,z4,z5⟩:=hs
 have f:=fun {α:Type} (t:Bool) (sz:Nat) (e:α→DV) (xs:List α)=>(sF t sz e xs).mono (show 1≤20 by decide)
 have WX:=s157 (.int .i64 b.me) (eL t.aL 1 cF b.aL) (eL t.aG 4 aJ b.aG) (eL t.entries 7 aN b.entries) (eL t.bJ 3 cB b.bJ) t.seen b.seen a.id.aW a.id.seq hr (by omega) ((iS _ _).mono (by decide)) (f _ _ _ _) (f _ _ _ _) (f _ _ _ _) (f _ _ _ _)
 have Xm:=d8 (.int .i64 b.me) (eL t.aG 4 aJ b.aG) (eL t.seen 2 eID b.seen) (eL t.entries 7 aN b.entries) (eL t.bJ 3 cB b.bJ) t.aL b.aL a.bP (by omega)
 have WY:=VS a.pred hp
 obtain⟨S,hS⟩:∃ S,decide (a.id∈b.seen)=S:=⟨_,rfl⟩
 obtain⟨L,hL⟩:∃ L,jJ b a.bP=L:=⟨_,rfl⟩
 obtain⟨R,hR⟩:∃ R,kO a.pred=R:=⟨_,rfl⟩
 rw[show decide ((⟨a.id.aW,a.id.seq⟩:ID)∈b.seen)=S from hS]at WX
 rw[show(decide (a.bP=-1) || b.aL.contains a.bP)=L from hL]at Xm
 rw[hR]at WY
 unfold pcF
 rw[aP _ _ _ _ (by simp[AX])]
 cases S<;>cases L<;>cases R<;>simp[AX,e157,WX,Yn,Xm,LX,WY,mT,hS,hL,hR]
theorem s160(tg:Bool)(t:dZ)(b:aF)(e:bB)(hs:jF b)(hr:dB (b.aG.map (·.id)))(hp:sU e.pred) :
  pcF D AU [.agg [.int .i64 e.tree.aW,.int .i64 e.tree.seq,.int .i64 e.sub.aW,.int .i64 e.sub.seq,bQ e.pred,.int .i64 e.cJ,.bool e.up],.iptr tg [.int .i64 b.me,eL t.aL 1 cF b.aL,eL t.aG 4 aJ b.aG,eL t.seen 2 eID b.seen,eL t.entries 7 aN b.entries,eL t.bJ 3 cB b.bJ] 0]=some (.bool (!eU b e)):=by
 obtain⟨z1,z2,z3,z4,z5⟩:=hs
 have f:=fun {α:Type} (t:Bool) (sz:Nat) (e:α→DV) (xs:List α)=>(sF t sz e xs).mono (show 1≤20 by decide)
 have hre:=s161 b.me (eL t.seen 2 eID b.seen) (eL t.entries 7 aN b.entries) (eL t.bJ 3 cB b.bJ) t.aG t.aL b.aL b.aG e b rfl rfl hr (by omega) (by omega) (f _ _ _ _) (f _ _ _ _) (f _ _ _ _) hp
 unfold pcF
 rw[aP _ _ _ _ (by simp[AU])]
 simp[AU,e161,hre]
theorem s163(a b:Int)(p:bN)(hp:sU p):pcF D AS [.agg [.int .i64 a,.int .i64 b,bQ p]]=some (.bool (!kO p)):=by
 unfold pcF
 rw[aP _ _ _ _ (by simp[AS])]
 simp[AS,LX,VS,hp]
def lJ(b:aF):Bool :=
 cH (fun x y=>decide (x<y)) b.aL && cH (fun x y=>iD x y) b.seen && cH (fun x y:bD=>iD x.id y.id) b.aG && cH (fun x y:fQ=>iD x.id y.id) b.bJ && cH ltE b.entries
def mS(b:aF):Bool :=
 lJ b && !(b.aG.any fun a=>!mT b a) && !(b.entries.any fun e=>!eU b e) && !(b.bJ.any fun o=>!kO o.pred)
theorem s66(t:dZ)(b:aF)(hs:jF b)(hp:Dx b):pcF D t66 [aI t b]=some (.bool (mS b)):=by
 have yT:=hs
 obtain⟨z1,z2,z3,z4,z5⟩:=yT
 have q1:=s144 t.aL b.aL 145 (fun x y=>decide (x<y)) (fun x _ y _ h=>by simp[cF,e145,s145]) (by omega)
 have q2:=s146 t.seen b.seen 147 (fun x y=>iD x y) (fun x _ y _ h=>by simp[eID,XV,VQ]) (by omega)
 have q3:=s148 t.aG b.aG 149 (fun x y=>iD x.id y.id) (fun x _ y _ h=>by simp[aJ,e149,s149]) (by omega)
 have q4:=s150 t.bJ b.bJ 151 (fun x y=>iD x.id y.id) (fun x _ y _ h=>by simp[cB,e151,s151]) (by omega)
 have q5:=s152 t.entries b.entries 153 ltE (fun x _ y _ h=>by simp[aN,e153,s153,ltE]) (by omega)
 have q8:=s162 t.bJ b.bJ 163 [] (fun o=>!kO o.pred) (by simp) (fun x hx h=>by simp[cB,e163,s163,hp.own x hx]) (by omega)
 unfold pcF
 rw[aP _ _ _ _ (by simp[t66])]
 simp only[aI]
 cases h1:cH (fun x y=>decide (x<y)) b.aL with
 | false =>
  rw[h1]at q1
  simp[t66,FB,q1,mS,lJ,h1]
 | true =>
 rw[h1]at q1
 cases h2:cH (fun x y=>iD x y) b.seen with
 | false =>
  rw[h2]at q2
  simp[t66,FB,q1,LW,q2,mS,lJ,h1,h2]
 | true =>
 rw[h2]at q2
 cases h3:cH (fun x y:bD=>iD x.id y.id) b.aG with
 | false =>
  rw[h3]at q3
  simp[t66,FB,q1,LW,q2,SB,q3,mS,lJ,h1,h2,h3]
 | true =>
 rw[h3]at q3
 cases h4:cH (fun x y:fQ=>iD x.id y.id) b.bJ with
 | false =>
  rw[h4]at q4
  simp[t66,FB,q1,LW,q2,SB,q3,XU,q4,mS,lJ,h1,h2,h3,h4]
 | true =>
 rw[h4]at q4
 cases h5:cH ltE b.entries with
 | false =>
  rw[h5]at q5
  simp[t66,FB,q1,LW,q2,SB,q3,XU,q4,v8,q5,mS,lJ,h1,h2,h3,h4,h5]
 | true =>
 rw[h5]at q5
 have rs:dB b.seen:=by have:=Cz (key:=fun a:ID=>a) h2;simpa using this
 have ra:dB (b.aG.map (·.id)):=Cz (key:=fun a:bD=>a.id) h3
 have q6:=s155 t.aG b.aG 156 [.iptr true [.int .i64 b.me,eL t.aL 1 cF b.aL,eL t.aG 4 aJ b.aG,eL t.seen 2 eID b.seen,eL t.entries 7 aN b.entries,eL t.bJ 3 cB b.bJ] 0] (fun a=>!mT b a) (fun x hx=>by
  simp only[List.mem_singleton]at hx;subst hx;exact(Dl _ _ _).mono (by decide)) (fun x hx h=>by
  simp[aJ,e156,s156 true t b x hs rs (hp.adv x hx)]) (by omega)
 have q7:=d7 t.entries b.entries 160 [.iptr true [.int .i64 b.me,eL t.aL 1 cF b.aL,eL t.aG 4 aJ b.aG,eL t.seen 2 eID b.seen,eL t.entries 7 aN b.entries,eL t.bJ 3 cB b.bJ] 0] (fun a=>!eU b a) (fun x hx=>by
  simp only[List.mem_singleton]at hx;subst hx;exact(Dl _ _ _).mono (by decide)) (fun x hx h=>by
  simp[aN,e160,s160 true t b x hs ra (hp.ent x hx)]) (by omega)
 cases h6:b.aG.any (fun a=>!mT b a)<;>rw[h6]at q6<;>cases h7:b.entries.any (fun a=>!eU b a)<;>rw[h7]at q7<;>cases h8:b.bJ.any (fun o=>!kO o.pred)<;>rw[h8]at q8 <;>
  simp[t66,FB,q1,LW,q2,SB,q3,XU,q4,v8,q5,e155,q6,v7,q7,e162,q8,mS,lJ,h1,h2,h3,h4,h5,-List.any_eq_true,-List.any_eq_false,h6,h7,h8]
end Go.Dm.Tc
/-
What functions of the program compute,part 12: an advertisement forgotten.
-/
namespace Go.Dm.Tc
def dE{α:Type}(key:α→ID)(x:ID)(l:List α):List α:=l.filter fun a=>!decide (key a=x)
theorem Zx{α:Type}(key:α→ID){l:List α}(hr:dB (l.map key)){x:ID}{i:Nat}{a:α}(hi:l[i]?=some a)(ha:key a=x):l.take i++l.drop (i+1)=dE key x l:=by
 have aZ:i<l.length:=by
  by_cases h:i<l.length
  ·exact h
  ·rw[List.getElem?_eq_none (by omega)]at hi;cases hi
 have Ji:l[i]=a:=by rw[List.getElem?_eq_getElem aZ]at hi;exact Option.some.inj hi
 have dW:∀j (hj:j<l.length),j≠i→key l[j]≠x:=by
  intro j hj hji e
  rcases Nat.lt_or_gt_of_ne hji with h|h
  ·have:=List.pairwise_iff_getElem.1 hr j i (by simpa using hj) (by simpa using aZ) h
   simp only[List.getElem_map,Ji,ha,e]at this
   rw[hM]at this;omega
  ·have:=List.pairwise_iff_getElem.1 hr i j (by simpa using aZ) (by simpa using hj) h
   simp only[List.getElem_map,Ji,ha,e]at this
   rw[hM]at this;omega
 have h1:(l.take i).filter (fun a=>!decide (key a=x))=l.take i:=by
  rw[List.filter_eq_self]
  intro y hy
  obtain⟨j,hj,rfl⟩:=List.mem_iff_getElem.1 hy
  rw[List.length_take]at hj
  have:=dW j (by omega) (by omega)
  simpa using this
 have h2:(l.drop (i+1)).filter (fun a=>!decide (key a=x))=l.drop (i+1):=by
  rw[List.filter_eq_self]
  intro y hy
  obtain⟨j,hj,rfl⟩:=List.mem_iff_getElem.1 hy
  rw[List.length_drop]at hj
  have:=dW (i+1+j) (by omega) (by omega)
  simpa using this
 have h3:(l.drop i).filter (fun a=>!decide (key a=x))=l.drop (i+1):=by
  rw[List.drop_eq_getElem_cons aZ,List.filter_cons,Ji,ha,h2];simp
 calc l.take i++l.drop (i+1)=(l.take i++l.drop i).filter (fun a=>!decide (key a=x)):=by rw[List.filter_append,h1,h3]
  _=_:=by rw[List.take_append_drop];rfl
def dH(b:aF)(x:ID)(cJ:Int):aF×Bool :=
 match b.aG.find? (fun a=>a.id=x)with
 | none=>(b,false)
 | some a=>if a.bP=cJ then({b with aG:=dE (fun a=>a.id) x b.aG,entries:=dE (fun e=>e.tree) x b.entries},true)else(b,false)
end Go.Dm.Tc
/-
What the reference's functions compute,part 3: an advertisement forgotten.
-/
namespace Go.Dm.Tc
theorem L9{ety:Nat}{a b c:aA}(x:pN ety a b)(y:pN ety b c):pN ety a c:=fun k o hg dW=>y k o (x k o hg dW) dW
theorem l201(S:List Fr)(h0:aA)(c d:Int)(t:Bool)(ent:List bB)(hl:ent.length≤1000000)(aO:h0.lim=0)(hn:3≤h0.n)(g1:h0.get 1=some (.arr 45 2 [.agg [.int .i64 c,.int .i64 d]] (some 1))) :
  ∀(rest:List bB) (i:Nat) (iA:List bB) (f:dJ) (h:aA),ent.drop i=rest→iA.length≤i→f 3=.ptr 0 6 0 0→f 4=.ptr 1 2 0 0→f 6=.ptr 2 6 0 0→f 42=eL t 7 aN ent→f 43=.int .i64 ent.length→f 44=.int .i64 i →
   OwnR 3 h (f 9) 70 7 (iA.map aN)→Ext 3 h0 h→pN 70 h0 h →
  ∃ f' h',run D 60 (.block 0::.seq Pf::S) (.loop Pe) f h=run D 60 S Pf f' h'∧f' 3=.ptr 0 6 0 0∧f' 6=.ptr 2 6 0 0∧OwnR 3 h' (f' 9) 70 7 ((iA++dE (fun e=>e.tree) ⟨c,d⟩ rest).map aN)∧Ext 3 h0 h'∧pN 70 h0 h':=by
 intro rest
 induction rest with
 | nil =>
  intro i iA f h hd ha h3 h4 h6 h42 h43 h44 ho hx hk
  have hi:=cY hd
  have:¬(i<ent.length):=by omega
  rw[aC Pe.eq_1]
  simp[h42,h43,h44,this]
  refine⟨_,_,rfl,by simp[h3],by simp[h6],?_,hx,hk⟩
  simpa[dE]using ho
 | cons e rest ih =>
  intro i iA f h hd ha h3 h4 h6 h42 h43 h44 ho hx hk
  obtain⟨hi,he,fV⟩:=cN hd
  have hlH:h.lim=0:=hx.lim.trans aO
  have No:=(hx.get 1 (by decide)).trans g1
  have hnh:=hx.le
  have n1:¬1=h.n:=by omega
  have hw:IntKind.i64.wrap ((i:Int)+1)=(i:Int)+1:=bE (by omega) (by omega)
  rw[aC Pe.eq_1]
  by_cases hc:e.tree=⟨c,d⟩
  ·have vP:e.tree.aW=c:=by rw[hc]
   have Ge:e.tree.seq=d:=by rw[hc]
   simp[h3,h4,h6,h42,h43,h44,hi,he,hlH,No,n1,aN,vP,Ge,hw]
   have hf:dE (fun e:bB=>e.tree) ⟨c,d⟩ (e::rest)=dE (fun e:bB=>e.tree) ⟨c,d⟩ rest:=by simp[dE,hc]
   rw[hf,←List.map_append]
   generalize hF:upd _ 44 _=F
   refine ih (i+1) iA F _ fV (by omega) ?_ ?_ ?_ ?_ ?_ ?_ ?_ hx.push hk.push
   ·rw[←hF];simp[h3]
   ·rw[←hF];simp[h4]
   ·rw[←hF];simp[h6]
   ·rw[←hF];simp[h42]
   ·rw[←hF];simp[h43]
   ·rw[←hF];simp
   ·rw[←hF];simp;exact ho.push
  ·have EI:¬(e.tree.aW=c∧e.tree.seq=d):=fun q=>hc (by cases e with|mk t s p q u=>cases t;simp_all)
   have Ti:(e.tree.aW == c && e.tree.seq == d)=false:=by
    cases hb:(e.tree.aW == c && e.tree.seq == d)with
    | false=>rfl
    | true=>exact absurd (by simpa using hb) EI
   simp[h3,h4,h6,h42,h43,h44,hi,he,hlH,No,n1,aN,Ti]
   generalize hA:aU _ _ _ _ _ _=A
   obtain⟨v',h',rfl,Xl,Bl,pP⟩:=ho.push.push.append hx.push.push.wf (by simp;omega) (by simp[hlH]) hA (by simp;omega) (by decide)
   clear hA
   have hf:dE (fun e:bB=>e.tree) ⟨c,d⟩ (e::rest)=e::dE (fun e:bB=>e.tree) ⟨c,d⟩ rest:=by simp[dE,hc]
   rw[hf]
   simp[h44,hw]
   generalize hF:upd _ 44 _=F
   have:=ih (i+1) (iA++[e]) F h' fV (by simp;omega) (by rw[←hF];simp[h3]) (by rw[←hF];simp[h4]) (by rw[←hF];simp[h6]) (by rw[←hF];simp[h42]) (by rw[←hF];simp[h43]) (by rw[←hF];simp) (by rw[←hF];simp;simpa[aN]using Xl) (hx.push.push.trans Bl) (L9 hk.push.push pP)
   simpa using this
theorem tK{α:Type}(p:α→Bool)(l:List α):match l.find? p with
  | some a=>∃ i,l.findIdx? p=some i∧l[i]?=some a
  | none=>l.findIdx? p=none:=by
 cases h:l.find? p with
 | none=>simp only;rw[List.findIdx?_eq_none_iff];intro a ha;have:=List.find?_eq_none.1 h a ha;simpa using this
 | some a =>
  simp only
  have h1:=List.find?_some h
  cases hi:l.findIdx? p with
  | none=>rw[List.findIdx?_eq_none_iff]at hi;have:=hi a (List.mem_of_find?_eq_some h);rw[h1]at this;cases this
  | some i =>
   refine⟨i,rfl,?_⟩
   obtain⟨hl,hp,hq⟩:=List.findIdx?_eq_some_iff_getElem.1 hi
   obtain⟨hpa,u1,u2,hab,hn⟩:=List.find?_eq_some_iff_append.1 h
   have:u1.length=i:=by
    rcases Nat.lt_trichotomy u1.length i with aZ|he|hgt
    ·have:=hq u1.length aZ
     subst hab
     simp[h1]at this
    ·exact he
    ·exfalso
     subst hab
     have:=hn (u1[i]'hgt) (List.getElem_mem hgt)
     rw[List.getElem_append_left hgt]at hp
     rw[hp]at this
     cases this
   subst hab
   rw[←this]
   simp
theorem s201(b:aF)(c d q:Int)(hs:jF b)(ra:dB (b.aG.map (·.id))) :
  pcF D Kx [aI .none b,.agg [.int .i64 c,.int .i64 d],.int .i64 q]=some (.tup [aI .none (dH b ⟨c,d⟩ q).1,.bool (dH b ⟨c,d⟩ q).2]):=by
 obtain⟨me,aL,adv,seen,ent,own⟩:=b
 obtain⟨z1,z2,z3,z4,z5⟩:=hs
 simp only at z1 z2 z3 z4 z5 ra
 obtain⟨R,hR⟩:∃ R,R=DV.tup [aI .none (dH ⟨me,aL,adv,seen,ent,own⟩ ⟨c,d⟩ q).1,.bool (dH ⟨me,aL,adv,seen,ent,own⟩ ⟨c,d⟩ q).2]:=⟨_,rfl⟩
 rw[←hR]
 have Lz:adv.length≤1000000:=by omega
 have mP:ent.length≤1000000:=by omega
 have wN:=tK (fun a:bD=>decide (a.id=⟨c,d⟩)) adv
 unfold pcF
 rw[aP _ _ _ _ (by simp[Kx])]
 cases hq:adv.find? (fun a=>a.id=⟨c,d⟩)with
 | none =>
  rw[hq]at wN
  simp only at wN
  simp[Kx,aI,dZ.none,Ce,Ba,Lz,wN,eM,aT]
  simp[hR,dH,hq,dZ.none,aI]
 | some a =>
  rw[hq]at wN
  simp only at wN
  obtain⟨i,hi,Ji⟩:=wN
  have hax:a.id=⟨c,d⟩:=by simpa using List.find?_some hq
  have Xp:i<adv.length:=by
   by_cases h:i<adv.length
   ·exact h
   ·rw[List.getElem?_eq_none (by omega)]at Ji;cases Ji
  have zX:¬(i:Int)<0:=by omega
  have hw:IntKind.i64.wrap ((i:Int)+1)=(i:Int)+1:=bE (by omega) (by omega)
  by_cases Rt:a.bP=q
  ·have hwo:=Zx (fun a:bD=>a.id) ra Ji hax
   simp[Kx,aI,dZ.none,Ce,Ba,Lz,hi,eM,zX,Ji,aJ,eq_true Rt,Nat.le_of_lt Xp,hw]
   have N7:i≤adv.length:=Nat.le_of_lt Xp
   generalize hA:aU _ _ _ _ _ _=A
   obtain⟨i1,K1,rfl,o1,x1,y1,j1⟩:=(dL.fresh (lo:=3) (ety:=68) (sz:=4) (xs:=[]) (cap:=some 0) (by simp) (by simp)).append (n:=0) rfl (by simp) (by simp) (by simp) hA (by simp;omega) (by decide)
   clear hA
   have a0:=x1.get 0 (by decide)
   have a1:=x1.get 1 (by decide)
   have a2:=x1.get 2 (by decide)
   have q1:=x1.lim
   have w1:=x1.wf
   have n1:=x1.le
   have u1:=o1.lo
   have m0:¬0=i1:=by omega
   have m1:¬i1=0:=by omega
   have m2:¬i1=1:=by omega
   have m3:¬1=i1:=by omega
   simp at a0 a1 a2 q1 o1
   simp[a0,a1,a2,q1,m0,m1,m2,m3,N7,hw,Xp,Nat.succ_le_of_lt Xp]
   generalize hA:aU _ _ _ _ _ _=A
   obtain⟨i2,K2,rfl,o2,x2,y2,j2⟩:=o1.append (by simp[N7]) w1 n1 (by omega) hA (by simp;omega) (by decide)
   clear hA
   have b0:=x2.get 0 (by decide)
   have b1:=x2.get 1 (by decide)
   have b2:=x2.get 2 (by decide)
   have q2:=x2.lim
   have w2:=x2.wf
   have n2:=x2.le
   have u2:=o2.lo
   rw[a0]at b0
   rw[a1]at b1
   rw[a2]at b2
   rw[q1]at q2
   have l2:0<K2.n:=by omega
   have cM:(List.take i (List.map aJ adv)++List.drop (i+1) (List.map aJ adv))=(dE (fun a=>a.id) ⟨c,d⟩ adv).map aJ:=by rw[←hwo];simp
   have o2':dL 3 K2 i2 68 4 ((dE (fun a=>a.id) ⟨c,d⟩ adv).map aJ):=by rw[←cM];exact o2
   have hlw:(dE (fun a=>a.id) ⟨c,d⟩ adv).length=i+(adv.length-(i+1)):=by rw[←hwo];simp[Nat.min_eq_left N7]
   simp[b0,q2,w2,l2,turn]
   generalize hF:upd _ 44 _=F
   generalize hK:K2.set 0 _=K3
   have e0:K3.get 0=some (.arr 37 6 [.agg [.int .i64 me,eL false 1 cF aL,.sl i2 4 0 ((dE (fun a=>a.id) ⟨c,d⟩ adv).map aJ).length,eL false 2 eID seen,eL false 7 aN ent,eL false 3 cB own]] (some 1)):=by
    rw[←hK];simp[w2,l2,hlw,Nat.min_eq_left N7]
   have e1:K3.get 1=some (.arr 45 2 [.agg [.int .i64 c,.int .i64 d]] (some 1)):=by
    rw[←hK];simp[w2,l2,b1]
   have e2:K3.get 2=some (.arr 37 6 [.agg [.int .i64 0,.nsl,.nsl,.nsl,.nsl,.nsl]] (some 1)):=by
    rw[←hK];simp[w2,l2,b2]
   have w3:WF K3:=by rw[←hK];exact w2.set
   have q3:K3.lim=0:=by rw[←hK];exact q2
   have n3:3≤K3.n:=by rw[←hK];exact n2
   have o3:dL 3 K3 i2 68 4 ((dE (fun a=>a.id) ⟨c,d⟩ adv).map aJ):=by rw[←hK];exact o2'.bU w2 (by decide) l2
   obtain⟨f1,K4,k1,k2,k3,o4,x4,y4⟩:=l201 [] K3 c d false ent mP q3 n3 e1 ent 0 [] F K3 rfl (by simp) (by rw[←hF];simp) (by rw[←hF];simp) (by rw[←hF];simp) (by rw[←hF];simp) (by rw[←hF];simp) (by rw[←hF];simp) (by rw[←hF];simp;exact .nil rfl rfl) (.refl n3 w3) (.refl _ _)
   rw[k1]
   clear hF hK k1
   have c0:=x4.get 0 (by decide)
   have c2:=x4.get 2 (by decide)
   have q4:=x4.lim
   have w4:=x4.wf
   have n4:=x4.le
   rw[e0]at c0
   rw[e2]at c2
   rw[q3]at q4
   have l4:0<K4.n:=by omega
   have l42:2<K4.n:=by omega
   have s3:=o3.keep y4 x4.lim (by decide)
   simp only[List.nil_append]at o4
   have r3:=fun o o'=>((s3.toR.bU (o:=o) w4 (by decide) l4).bU (o:=o') w4.set (by decide) l42).resolve (n:=198) false (fun y _=>(qE y).1) (by decide)
   have r4:=fun o o'=>((o4.bU (o:=o) w4 (by decide) l4).bU (o:=o') w4.set (by decide) l42).resolve (n:=198) false (fun y _=>(fW y).1) (by decide)
   simp only[List.length_map]at c0 r3
   simp[Pf,k2,k3,c0,c2,q4,w4,l4,l42,turn,o4.bF,o4.aK,-nV,r3,r4,aT]
   simp[hR,dH,hq,Rt,dZ.none,aI]
  ·simp[Kx,aI,dZ.none,Ce,Ba,Lz,hi,eM,zX,Ji,aJ,Rt,aT]
   simp[hR,dH,hq,Rt,dZ.none,aI,aJ]
end Go.Dm.Tc
/-
Calls that let go of rows,brought into form;closed runs.
-/
namespace Go.Dm.Tc
def X8:Option (DV×aA)→(aA→Option (List DV×aA))→Option (List DV×aA)
 | some (v,h),k=>match k h with|some (r,h')=>some (v::r,h')|none=>none
 | none,_=>none
def TN(v:DV):Option (List DV×aA)→Option (List DV×aA)
 | some (r,h)=>some (v::r,h)
 | none=>none
def aggH:Option (List DV×aA)→Option (DV×aA)
 | some (r,h)=>some (.agg r,h)
 | none=>none
theorem Ae(v:DV)(r:List DV)(h:aA):TN v (some (r,h))=some (v::r,h):=_root_.id rfl
theorem Dw(r:List DV)(h:aA):aggH (some (r,h))=some (.agg r,h):=_root_.id rfl
theorem Af(v:DV)(h:aA)(k:aA→Option (List DV×aA)):X8 (some (v,h)) k=TN v (k h):=by
 simp only[X8];cases k h<;>rfl
theorem Iy(f:aA→DV→Option (DV×aA))(h:aA):uN f h []=some ([],h):=_root_.id rfl
theorem Df(f:aA→DV→Option (DV×aA))(h:aA)(v:DV)(r:List DV):uN f h (v::r)=X8 (f h v) (fun h1=>uN f h1 r):=by
 simp only[uN,X8]
 cases f h v with
 | none=>rfl
 | some p=>rfl
theorem Sf(h:aA)(cs:List DV):iR h (.agg cs)=aggH (uN gI h cs):=by
 simp only[iR];cases uN gI h cs<;>rfl
theorem X6(h:aA)(k:IntKind)(n:Int):iR h (.int k n)=some (.int k n,h):=_root_.id rfl
theorem O4{α:Type}(h:aA)(t:Bool)(sz:Nat)(e:α→DV)(xs:List α):iR h (eL t sz e xs)=some (eL t sz e xs,h):=by cases xs<;>rfl
theorem Xx(h:aA)(p:bN):iR h (bQ p)=some (bQ p,h):=O4 ..
theorem X5(h:aA)(s:List UInt8):iR h (.str s)=some (.str s,h):=_root_.id rfl
theorem O3(h:aA)(k:IntKind)(n:Int):gI h (.int k n)=some (.int k n,h):=_root_.id rfl
theorem X4(h:aA)(b:Bool):gI h (.bool b)=some (.bool b,h):=_root_.id rfl
theorem LJ(h:aA):gI h .nsl=some (.nsl,h):=_root_.id rfl
theorem X3{α:Type}(h:aA)(t:Bool)(sz:Nat)(e:α→DV)(xs:List α):gI h (eL t sz e xs)=some (eL t sz e xs,h):=by cases xs<;>rfl
theorem X2(h:aA)(p:bN):gI h (bQ p)=some (bQ p,h):=X3 ..
theorem LK(h:aA)(t:Bool)(sz:Nat)(xs:List DV):gI h (.isl t sz xs)=some (.isl t sz xs,h):=_root_.id rfl
attribute [simp] Ae Dw Af Iy Df Sf X6 O4 Xx X5 O3 X4 LJ X3 X2 LK Q3
theorem nn1(n:Nat):(n=n+1)=False:=eq_false (by omega)
theorem mm1(n:Nat):(n+1=n)=False:=eq_false (by omega)
theorem nn2(n:Nat):(n=n+1+1)=False:=eq_false (by omega)
theorem mm2(n:Nat):(n+1+1=n)=False:=eq_false (by omega)
theorem nn3(n:Nat):(n=n+1+1+1)=False:=eq_false (by omega)
theorem mm3(n:Nat):(n+1+1+1=n)=False:=eq_false (by omega)
theorem nn4(n:Nat):(n=n+1+1+1+1)=False:=eq_false (by omega)
theorem mm4(n:Nat):(n+1+1+1+1=n)=False:=eq_false (by omega)
theorem nn5(n:Nat):(n=n+1+1+1+1+1)=False:=eq_false (by omega)
theorem mm5(n:Nat):(n+1+1+1+1+1=n)=False:=eq_false (by omega)
theorem nn6(n:Nat):(n=n+1+1+1+1+1+1)=False:=eq_false (by omega)
theorem mm6(n:Nat):(n+1+1+1+1+1+1=n)=False:=eq_false (by omega)
theorem nn7(n:Nat):(n=n+1+1+1+1+1+1+1)=False:=eq_false (by omega)
theorem mm7(n:Nat):(n+1+1+1+1+1+1+1=n)=False:=eq_false (by omega)
theorem nn8(n:Nat):(n=n+1+1+1+1+1+1+1+1)=False:=eq_false (by omega)
theorem mm8(n:Nat):(n+1+1+1+1+1+1+1+1=n)=False:=eq_false (by omega)
theorem nn9(n:Nat):(n=n+1+1+1+1+1+1+1+1+1)=False:=eq_false (by omega)
theorem mm9(n:Nat):(n+1+1+1+1+1+1+1+1+1=n)=False:=eq_false (by omega)
theorem nn10(n:Nat):(n=n+1+1+1+1+1+1+1+1+1+1)=False:=eq_false (by omega)
theorem mm10(n:Nat):(n+1+1+1+1+1+1+1+1+1+1=n)=False:=eq_false (by omega)
theorem nn11(n:Nat):(n=n+1+1+1+1+1+1+1+1+1+1+1)=False:=eq_false (by omega)
theorem mm11(n:Nat):(n+1+1+1+1+1+1+1+1+1+1+1=n)=False:=eq_false (by omega)
theorem nn12(n:Nat):(n=n+1+1+1+1+1+1+1+1+1+1+1+1)=False:=eq_false (by omega)
theorem mm12(n:Nat):(n+1+1+1+1+1+1+1+1+1+1+1+1=n)=False:=eq_false (by omega)
attribute [simp] nn1 mm1 nn2 mm2 nn3 mm3 nn4 mm4 nn5 mm5 nn6 mm6 nn7 mm7 nn8 mm8 nn9 mm9 nn10 mm10 nn11 mm11 nn12 mm12
theorem JO{k n:Nat}{df:aS}{args ds:List DV}{d:DV}(he:∀args h,fc D k args h=tP D df h (args.mapM (resolve true h cO)))(hd:args.mapM (resolve true pY cO)=some ds)(hr:Yz D n k args pY=some (d,pY)):pcF D df ds=some d:=by
 have h1:fc D k args pY=some (d,pY):=Gg.2 ⟨n,hr⟩
 rw[he,hd,vI]at h1
 cases h2:pcF D df ds with
 | none=>rw[h2]at h1;cases h1
 | some x=>rw[h2,Ah]at h1;injection h1 with h1;injection h1 with h1;rw[h1]
end Go.Dm.Tc
/-
Plain laws,part 1: predicates Fg of numbers are right;rows that rise stay so.
-/
namespace Go.Dm.Tc
theorem Rk:∀nm∈sO,zS nm=true∧nm.length≤1000000:=by decide
theorem Z5:∀i:Nat,(vX.getD i []).length≤3:=by
 intro i
 by_cases h:i<vX.length
 ·have:∀x∈vX,x.length≤3:=by decide
  rw[List.getD_eq_getElem?_getD,List.getElem?_eq_getElem h]
  exact this _ (List.getElem_mem h)
 ·rw[List.getD_eq_getElem?_getD,List.getElem?_eq_none (by omega)]
  simp
theorem El(nm:List UInt8)(n:Int):(pR nm n).name=nm:=by unfold pR;split<;>rfl
theorem Ro{nm:List UInt8}(h:zS nm=true)(n:Int):cX (pR nm n)=true:=by
 unfold pR
 split
 ·have b1:=eE (IntKind.i64.wrap (n.tdiv 40)) (show(0:Int)≤9 by decide)
  simp only[cX,h,Bool.true_and,if_true]
  simp
  omega
 ·have ht:=Z5 (aQ (IntKind.i64.wrap (n.tdiv 4)) 0 6).toNat
  split
  ·simp only[cX,h,Bool.true_and]
   simp
   simp at ht
   omega
  ·simp only[cX,h,Bool.true_and]
   simp
   simp at ht
   omega
theorem Eh{c:kM}(hc:cX c=true):∀(iA:bN) (prev:Option (List UInt8)),iB prev iA=true→(∀d∈iA,Go.Op.bytesLess d.name c.name=true)→(∀n,prev=some n→Go.Op.bytesLess n c.name=true)→iB prev (iA++[c])=true
 | [],prev,_,_,hp=>by
  simp only[List.nil_append,iB,hc,Bool.true_and,Bool.and_true]
  cases prev with
  | none=>rfl
  | some n=>exact hp n rfl
 | d::r,prev,h,hd,hp=>by
  simp only[iB,Bool.and_eq_true]at h
  simp only[List.cons_append,iB,Bool.and_eq_true]
  exact⟨h.1,Eh hc r (some d.name) h.2 (fun x hx=>hd x (List.mem_cons_of_mem _ hx)) (fun n hn=>by injection hn with hn;rw[←hn];exact hd d (List.mem_cons_self ..))⟩
theorem sP(has vals:List Int):∀(rest:List (List UInt8)) (i:Nat) (iA:bN),(∀nm∈rest,zS nm=true∧nm.length≤1000000)→rest.Pairwise (fun a b=>Go.Op.bytesLess a b=true)→iB none iA=true→iA.length≤5 →
  (∀d∈iA,d.name.length≤1000000∧∀nm∈rest,Go.Op.bytesLess d.name nm=true)→iB none (fT has vals rest i iA)=true∧(fT has vals rest i iA).length≤5∧∀d∈fT has vals rest i iA,d.name.length≤1000000
 | [],_,iA,_,_,h,hl,hd=>⟨h,hl,fun d hx=>(hd d hx).1⟩
 | nm::r,i,iA,hn,hp,h,hl,hd=>by
  rw[List.pairwise_cons]at hp
  simp only[fT]
  split
  ·rename_i hc
   have hr:=Ro (hn nm (List.mem_cons_self ..)).1 (Ik vals i)
   refine sP has vals r (i+1) _ (fun x hx=>hn x (List.mem_cons_of_mem _ hx)) hp.2 (Eh hr iA none h (fun d hx=>by rw[El];exact(hd d hx).2 nm (List.mem_cons_self ..)) (fun n e=>by cases e)) (by simp;omega) ?_
   intro d hx
   rcases List.mem_append.1 hx with hx|hx
   ·exact⟨(hd d hx).1,fun y hy=>(hd d hx).2 y (List.mem_cons_of_mem _ hy)⟩
   ·simp only[List.mem_singleton]at hx
    subst hx
    rw[El]
    exact⟨(hn nm (List.mem_cons_self ..)).2,fun y hy=>hp.1 y hy⟩
  ·exact sP has vals r (i+1) iA (fun x hx=>hn x (List.mem_cons_of_mem _ hx)) hp.2 h hl (fun d hx=>⟨(hd d hx).1,fun y hy=>(hd d hx).2 y (List.mem_cons_of_mem _ hy)⟩)
structure cZ(p:bN):Prop where
 right:kO p=true
 names:sU p
 len:p.length≤5
theorem fD(has vals:List Int):cZ (dV has vals):=by
 obtain⟨h1,h2,h3⟩:=sP has vals sO 0 [] Rk (by decide) rfl (by simp) (by simp)
 exact⟨by unfold kO;rw[show iB none (dV has vals)=true from h1,Bool.true_and];exact decide_eq_true h2,⟨Nat.le_trans h2 (by decide),h3⟩,h2⟩
theorem oE{α:Type}(key:α→ID)(a:α){l:List α}(h:dB (l.map key))(hn:∀b∈l,key b≠key a):dB ((iK key a l).map key):=by
 obtain⟨r1,r2⟩:=Hz key h (key a)
 have hp:l.Pairwise fun x y=>bK (key x) (key y)<0:=by unfold dB at h;exact List.pairwise_map.1 h
 unfold dB iK
 rw[List.pairwise_map,List.pairwise_append,List.pairwise_cons]
 generalize hk:aV (fun b=>bK (key b) (key a)) l=k at *
 have jU:∀b∈l.take k,bK (key b) (key a)<0:=by
  intro b hb
  obtain⟨i,hi,rfl⟩:=List.mem_iff_getElem.1 hb
  rw[List.getElem_take]
  rw[List.length_take]at hi
  exact r1 i (by omega) (by omega)
 have wM:∀b∈l.drop k,bK (key a) (key b)<0:=by
  intro b hb
  obtain⟨i,hi,rfl⟩:=List.mem_iff_getElem.1 hb
  rw[List.length_drop]at hi
  rw[List.getElem_drop]
  have:=r2 (k+i) (by omega) (by omega)
  rcases FH (key l[k+i]) (key a)with h1|h1|h1
  ·exact absurd h1 this
  ·exact absurd h1 (hn _ (List.getElem_mem _))
  ·exact h1
 refine⟨hp.sublist (List.take_sublist ..),⟨fun b hb=>wM b hb,hp.sublist (List.drop_sublist ..)⟩,?_⟩
 intro x hx y hy
 rcases List.mem_cons.1 hy with rfl|hy
 ·exact jU x hx
 ·exact wY (jU x hx) (wM y hy)
theorem pA{α:Type}(key:α→ID)(a:α)(l:List α)(b:α):b∈iK key a l↔b=a∨b∈l:=by
 unfold iK
 rw[List.mem_append,List.mem_cons]
 constructor
 ·rintro(h|h|h)
  ·exact .inr (List.mem_of_mem_take h)
  ·exact .inl h
  ·exact .inr (List.mem_of_mem_drop h)
 ·rintro(h|h)
  ·exact .inr (.inl h)
  ·rw[←List.take_append_drop (aV (fun b=>bK (key b) (key a)) l) l,List.mem_append]at h
   exact h.elim .inl fun h=>.inr (.inr h)
theorem Ga{α:Type}(key:α→ID)(a:α)(l:List α):(iK key a l).length=l.length+1:=by
 unfold iK
 rw[List.length_append,List.length_cons,List.length_take,List.length_drop]
 have:=eI (fun b=>bK (key b) (key a)) l
 omega
theorem mQ{α:Type}(key:α→ID){l:List α}(x:ID)(h:dB (l.map key)):dB ((dE key x l).map key):=by
 unfold dB at *
 rw[List.pairwise_map]at *
 exact h.sublist (List.filter_sublist ..)
theorem vT{α:Type}{key:α→ID}{x:ID}{l:List α}{a:α}(h:a∈dE key x l):a∈l∧key a≠x:=by
 have:=List.mem_filter.1 h
 simpa using this
theorem vU{α:Type}(key:α→ID)(x:ID)(l:List α):(dE key x l).length≤l.length:=List.length_filter_le ..
end Go.Dm.Tc
/-
Plain laws,part 2: a broker that was told of advertisements alone;sets of IDs as maps.
-/
namespace Go.Dm.Tc
structure xI(m0:Int)(nr:List Int)(b:aF)(n:Nat):Prop where
 me:b.me=m0
 aL:b.aL=nr
 ent:b.entries=[]
 own:b.bJ=[]
 ra:dB (b.aG.map (·.id))
 rs:dB b.seen
 la:b.aG.length≤n
 ls:b.seen.length≤n
 sub:∀a∈b.aG,a.id∈b.seen
 par:∀a∈b.aG,a.bP=-1∨a.bP∈nr
 prd:∀a∈b.aG,cZ a.pred
section
variable {me:Int} {aL:List Int} {b:aF} {n:Nat}
theorem xI.start(me:Int)(aL:List Int):xI me aL ⟨me,aL,[],[],[],[]⟩ 0:=⟨rfl,rfl,rfl,rfl,List.Pairwise.nil,List.Pairwise.nil,Nat.le_refl _,Nat.le_refl _,fun a h=>(by cases h),fun a h=>(by cases h),fun a h=>(by cases h)⟩
theorem xI.mono{m:Nat}(h:xI me aL b n)(hm:n≤m):xI me aL b m:={h with la:=Nat.le_trans h.la hm,ls:=Nat.le_trans h.ls hm}
theorem xI.learn(h:xI me aL b n)(a:bD)(hp:a.bP=-1∨a.bP∈aL)(hr:cZ a.pred):xI me aL (bX b a).1 (n+1):=by
 unfold bX
 split
 ·exact h.mono (Nat.le_succ n)
 ·rename_i hm
  refine⟨h.me,h.aL,h.ent,h.own,?_,?_,?_,?_,?_,?_,?_⟩
  ·exact oE (fun a:bD=>a.id) a h.ra (fun b hb e=>hm (by rw[←e];exact h.sub b hb))
  ·have:=oE (fun x:ID=>x) a.id (l:=b.seen) (by simpa using h.rs) (fun b hb e=>hm (by rw[←e];exact hb))
   simpa using this
  ·simp only[Ga];exact Nat.succ_le_succ h.la
  ·simp only[Ga];exact Nat.succ_le_succ h.ls
  ·intro x hx
   rw[pA]at hx ⊢
   rcases hx with rfl|hx
   ·exact .inl rfl
   ·exact .inr (h.sub x hx)
  ·intro x hx
   rw[pA]at hx
   rcases hx with rfl|hx
   ·exact hp
   ·exact h.par x hx
  ·intro x hx
   rw[pA]at hx
   rcases hx with rfl|hx
   ·exact hr
   ·exact h.prd x hx
theorem xI.forget(h:xI me aL b n)(x:ID)(q:Int):xI me aL (dH b x q).1 n:=by
 unfold dH
 split
 ·exact h
 ·split
  ·refine⟨h.me,h.aL,?_,h.own,mQ _ x h.ra,h.rs,Nat.le_trans (vU ..) h.la,h.ls,fun a ha=>h.sub a (vT ha).1,fun a ha=>h.par a (vT ha).1,fun a ha=>h.prd a (vT ha).1⟩
   simp[h.ent,dE]
  ·exact h
theorem xI.sized(h:xI me aL b n)(hn:n≤1000)(hl:aL.length≤1000):jF b:=⟨by rw[h.aL];omega,by have:=h.la;omega,by have:=h.ls;omega,by rw[h.ent];decide,by rw[h.own];decide⟩
theorem xI.sizedN(h:xI me aL b n):Dx b:=⟨fun a ha=>(h.prd a ha).names,fun a ha=>(by rw[h.ent]at ha;cases ha),fun a ha=>(by rw[h.own]at ha;cases ha)⟩
theorem xI.right(h:xI me aL b n)(hn:cH (fun x y=>decide (x<y)) aL=true):mS b=true:=by
 unfold mS lJ
 rw[h.aL,h.ent,h.own,qM (key:=fun a:bD=>a.id) h.ra,show cH (fun x y=>iD x y) b.seen=true from qM (key:=fun a:ID=>a) (by simpa using h.rs),hn]
 have:(b.aG.any fun a=>!mT b a)=false:=by
  rw[List.any_eq_false]
  intro a ha
  have h1:=h.sub a ha
  have h2:=h.par a ha
  have h3:=(h.prd a ha).right
  have h4:jJ b a.bP=true:=by
   unfold jJ
   rw[h.aL]
   rcases h2 with e|e
   ·simp[e]
   ·simp[e]
  simp[mT,h1,h3,h4]
 rw[this]
 rfl
end
def XP:Option DO→Option (List (DV×DV))
 | some (.mp es)=>some es
 | _=>none
theorem vB(h:aA)(id:Nat):wS h (.map id)=XP (h.get id):=by
 simp only[wS,XP]
 cases h.get id with
 | none=>rfl
 | some o=>cases o<;>rfl
theorem Dp(es:List (DV×DV)):XP (some (.mp es))=some es:=_root_.id rfl
def OC(h:aA)(q:EqT)(id:Nat)(k x:DV):Option DO→Option aA
 | some (.mp es)=>if h.lim≤id∧(iW q k k).isSome=true then
   match sH q k es with
   | some (some (i,_))=>some (h.set id (.mp (es.set i (k,x))))
   | some none=>some (h.set id (.mp (es++[(k,x)])))
   | none=>none
  else none
 | _=>none
theorem Tm(h:aA)(q:EqT)(id:Nat)(k x:DV):Ao h q (.map id) k x=OC h q id k x (h.get id):=by
 simp only[Ao,OC]
 cases h.get id with
 | none=>rfl
 | some o=>cases o<;>rfl
end Go.Dm.Tc
/-
What functions of the program compute,part 13: is a constraint wider than another one?
-/
namespace Go.Dm.Tc
def kJ(s p:List UInt8):Bool:=decide (p.length≤s.length) && (s.take p.length == p)
theorem s332(s p:List UInt8):pcF D B1 [.str s,.str p]=some (.bool (kJ s p)):=by
 unfold pcF
 rw[aP _ _ _ _ (by simp[B1])]
 by_cases h:p.length≤s.length
 ·have hs:nU (.str s) none (some (.int .i64 (p.length:Int)))=some (.str (s.take p.length)):=by
   simp only[nU]
   rw[Ai _ _ _ _ h]
   simp only[xC]
   simp
  simp[B1,h,hs,kJ]
 ·simp[B1,h,kJ]
theorem PH(s p:List UInt8):pcF D B2 [.str s,.str p]=some (.bool (kJ s p)):=by
 unfold pcF
 rw[aP _ _ _ _ (by simp[B2])]
 by_cases h:p.length≤s.length
 ·have hs:nU (.str s) none (some (.int .i64 (p.length:Int)))=some (.str (s.take p.length)):=by
   simp only[nU]
   rw[Ai _ _ _ _ h]
   simp only[xC]
   simp
  simp[B2,h,hs,kJ]
 ·simp[B2,h,kJ]
theorem b8(s p:List UInt8):pcF D Z8 [.str s,.str p]=some (.bool (kJ s p)):=by
 unfold pcF
 rw[aP _ _ _ _ (by simp[Z8])]
 simp[Z8,e332,s332]
theorem s315(s:List UInt8):pcF D Z7 [.str s]=some (XS ⟨true,0,s⟩):=by
 unfold pcF
 rw[aP _ _ _ _ (by simp[Z7])]
 simp[Z7,turn,XS]
def kW(c:kM)(s:List UInt8):Bool:=if c.kind=2 then s == c.text else if c.kind=3 then kJ s c.text else false
theorem s302(nm:List UInt8)(k lo hi:Int)(tx:List UInt8)(s:List UInt8) :
  pcF D On [.agg [.str nm,.int .i64 k,.int .i64 lo,.int .i64 hi,.str tx],.agg [.bool true,.int .i64 0,.str s]]=some (.bool (kW ⟨nm,k,lo,hi,tx⟩ s)):=by
 unfold pcF
 rw[aP _ _ _ _ (by simp[On])]
 by_cases k1:k=1
 ·subst k1
  simp[On,kW]
 ·by_cases k2:k=2
  ·subst k2
   simp[On,kW]
  ·by_cases k3:k=3
   ·subst k3
    simp[On,kW,p9,b8]
   ·simp[On,kW,k1,k2,k3]
def nS(c x:kM):Bool :=
 if x.kind=1 then decide (c.kind=1) && decide (c.lo≤x.lo) && decide (x.hi≤c.hi)
 else if x.kind=3 then decide (c.kind=3) && kJ x.text c.text
 else if x.kind=2 then kW c x.text
 else false
theorem b9(c x:kM):pcF D Fe [.agg [.str c.name,.int .i64 c.kind,.int .i64 c.lo,.int .i64 c.hi,.str c.text],.agg [.str x.name,.int .i64 x.kind,.int .i64 x.lo,.int .i64 x.hi,.str x.text]]=some (.bool (nS c x)):=by
 obtain⟨nm,k,lo,hi,tx⟩:=c
 obtain⟨nm',k',lo',lI,tx'⟩:=x
 unfold pcF
 rw[aP _ _ _ _ (by simp[Fe])]
 simp only
 by_cases k1:k'=1
 ·subst k1
  by_cases j:k=1
  ·by_cases h1:lo≤lo'
   ·simp[Fe,nS,j,h1]
   ·simp[Fe,nS,j,h1]
  ·simp[Fe,nS,j]
 ·by_cases k3:k'=3
  ·subst k3
   by_cases j:k=3
   ·simp[Fe,nS,j,p9,b8]
   ·simp[Fe,nS,j]
  ·by_cases k2:k'=2
   ·subst k2
    simp[Fe,nS,e315,s315,XS,e302,s302]
   ·simp[Fe,nS,k1,k2,k3]
end Go.Dm.Tc
/-
What functions of the program compute,part 14: does a predicate cover another one?
-/
namespace Go.Dm.Tc
def lR(p:bN):List (DV×DV):=p.map fun c=>(.str c.name,.agg [.str c.name,.int .i64 c.kind,.int .i64 c.lo,.int .i64 c.hi,.str c.text])
theorem uS(s:List UInt8):∀{p:bN},(∀c∈p,c.name≠s)→wL (.prim 2) (.str s) (lR p)=some 0
 | [],_=>rfl
 | y::r,h=>by
  have h1:(s == y.name)=false:=beq_eq_false_iff_ne.2 fun e=>h y (List.mem_cons_self ..) e.symm
  have ih:=uS s (p:=r) fun c hc=>h c (List.mem_cons_of_mem _ hc)
  simp only[lR,List.map_cons,wL,tN,qV,h1]
  rw[show wL _ _ (r.map _)=some 0 from ih]
theorem Aa(s:List UInt8):∀{p:bN} (i:Nat),(∀c∈p,c.name≠s)→kI (.prim 2) (.str s) (lR p) i=some none
 | [],_,_=>rfl
 | y::r,i,h=>by
  have h1:(s == y.name)=false:=beq_eq_false_iff_ne.2 fun e=>h y (List.mem_cons_self ..) e.symm
  have ih:=Aa s (p:=r) (i+1) fun c hc=>h c (List.mem_cons_of_mem _ hc)
  simp only[lR,List.map_cons,kI,tN,qV,h1]
  exact ih
def oP(p:bN):Prop:=p.Pairwise fun a b=>a.name≠b.name
theorem Jg(s:List UInt8):∀{p:bN} {c:kM},oP p→p.find? (fun c=>decide (c.name=s))=some c→wL (.prim 2) (.str s) (lR p)=some 1
 | [],_,_,h=>by cases h
 | y::r,c,hu,h=>by
  unfold oP at hu
  rw[List.pairwise_cons]at hu
  simp only[lR,List.map_cons,wL,tN,qV]
  by_cases h1:y.name=s
  ·rw[show(s == y.name)=true by rw[h1];simp,show wL _ _ (r.map _)=some 0 from uS s fun c hc e=>hu.1 c hc (by rw[h1,e])]
  ·rw[show(s == y.name)=false from beq_eq_false_iff_ne.2 fun e=>h1 e.symm]
   rw[List.find?_cons,decide_eq_false h1]at h
   rw[show wL _ _ (r.map _)=some 1 from Jg s hu.2 h]
theorem Jt(s:List UInt8):∀{p:bN} {c:kM} (i:Nat),p.find? (fun c=>decide (c.name=s))=some c→∃ j,kI (.prim 2) (.str s) (lR p) i=some (some (j,.agg [.str c.name,.int .i64 c.kind,.int .i64 c.lo,.int .i64 c.hi,.str c.text]))
 | [],_,_,h=>by cases h
 | y::r,c,i,h=>by
  simp only[lR,List.map_cons,kI,tN,qV]
  by_cases h1:y.name=s
  ·rw[List.find?_cons,decide_eq_true h1]at h
   simp only[Option.some.injEq]at h
   subst h
   rw[show(s == y.name)=true by rw[h1];simp]
   exact⟨i,rfl⟩
  ·rw[List.find?_cons,decide_eq_false h1]at h
   rw[show(s == y.name)=false from beq_eq_false_iff_ne.2 fun e=>h1 e.symm]
   exact Jt s (i+1) h
theorem Wy{p:bN}(hu:oP p)(z:DV)(s:List UInt8):xX (.prim 2) z true (.str s) (some (lR p))=some (match p.find? (fun c=>decide (c.name=s))with
  | some c=>.tup [.agg [.str c.name,.int .i64 c.kind,.int .i64 c.lo,.int .i64 c.hi,.str c.text],.bool true]
  | none=>.tup [z,.bool false]):=by
 have he:(iW (.prim 2) (.str s) (.str s)).isSome=true:=by simp
 simp only[xX,he,if_true]
 cases hf:p.find? (fun c=>decide (c.name=s))with
 | none =>
  have hn:∀c∈p,c.name≠s:=fun c hc=>by simpa using List.find?_eq_none.1 hf c hc
  simp only[sH,uS s hn,Aa s 0 hn]
  rfl
 | some c =>
  obtain⟨j,hj⟩:=Jt s 0 hf
  simp only[sH,Jg s hu hf,hj]
  rfl
theorem GV{h:aA}{id:Nat}{p:bN}{c:kM}(hn:∀d∈p,d.name≠c.name)(hl:h.lim≤id):OC h (.prim 2) id (.str c.name) (.agg [.str c.name,.int .i64 c.kind,.int .i64 c.lo,.int .i64 c.hi,.str c.text]) (some (.mp (lR p)))=some (h.set id (.mp (lR (p++[c])))):=by
 have he:(iW (.prim 2) (.str c.name) (.str c.name)).isSome=true:=by simp
 simp only[OC,he,hl,and_self,if_true,sH,uS c.name hn,Aa c.name 0 hn]
 simp[lR]
def jO(a b:bN):Bool:=a.all fun c=>match b.find? (fun x=>decide (x.name=c.name))with
 | some x=>nS c x
 | none=>false
theorem l226(S:List Fr)(b:bN)(hb:oP b)(hl:b.length≤1000000)(a:bN) :
  ∀(rest done:bN) (i:Nat) (f:dJ) (h:aA),b=done++rest→done.length=i→f 0=eL false 5 bC a→f 5=.map 0→f 13=eL false 5 bC b→f 14=.int .i64 b.length→f 15=.int .i64 i→h.get 0=some (.mp (lR done))→h.lim=0→1≤h.n→WF h →
  ∃ f' h',run D 46 (.block 0::.seq Ox::S) (.loop Ow) f h=run D 46 S Ox f' h'∧f' 0=eL false 5 bC a∧f' 5=.map 0∧h'.get 0=some (.mp (lR b))∧h'.lim=0∧1≤h'.n∧WF h':=by
 intro rest
 induction rest with
 | nil =>
  intro done i f h hd hi h0 h5 Tj RM X1 g aO hn wf
  have:¬(i<b.length):=by rw[hd];simp;omega
  rw[aC Ow.eq_1]
  simp[RM,X1,this]
  exact⟨_,_,rfl,by simp[h0],by simp[h5],by rw[hd];simpa using g,aO,hn,wf⟩
 | cons c rest ih =>
  intro done i f h hd hi h0 h5 Tj RM X1 g aO hn wf
  have aZ:i<b.length:=by rw[hd];simp;omega
  have he:b[i]=c:=by simp only[hd];rw[List.getElem_append_right (by omega)];simp[hi]
  have hnd:∀d∈done,d.name≠c.name:=by
   intro d hdm
   unfold oP at hb
   rw[hd,List.pairwise_append]at hb
   exact hb.2.2 d hdm c (List.mem_cons_self ..)
  have n0:¬0=h.n:=by omega
  have l0:0<h.n:=by omega
  have m0:¬h.n=0:=by omega
  have vM:=fun(H:aA) (hl:H.lim≤0)=>GV (h:=H) (id:=0) (p:=done) (c:=c) hnd hl
  rw[aC Ow.eq_1]
  simp[h5,Tj,RM,X1,aZ,he,bC,aO,n0,m0,l0,g,wf,Tm,vM]
  rw[bE (by omega) (by omega)]
  generalize hF:upd _ 15 _=F
  refine ih (done++[c]) (i+1) F _ (by rw[hd];simp) (by simp[hi]) ?_ ?_ ?_ ?_ ?_ ?_ ?_ ?_ ?_
  ·rw[←hF];simp[h0]
  ·rw[←hF];simp[h5]
  ·rw[←hF];simp[Tj]
  ·rw[←hF];simp[RM]
  ·rw[←hF];simp
  ·simp[n0,m0,l0,wf]
  ·simp[aO]
  ·simp
  ·simp[wf]
theorem m226(a b:bN)(hb:oP b)(hl:a.length≤1000000) :
  ∀(rest:bN) (i:Nat) (f:dJ) (h:aA),a.drop i=rest→f 5=.map 0→f 24=eL false 5 bC a→f 25=.int .i64 a.length→f 26=.int .i64 i→h.get 0=some (.mp (lR b))→h.lim=0→1≤h.n→WF h →
  dY (fin [.t 4] (run D 46 [.block 2,.seq B7] (.loop Ov) f h))=some (.bool (jO rest b)):=by
 intro rest
 induction rest with
 | nil =>
  intro i f h hd h5 h24 h25 h26 g aO hn wf
  have hi:=cY hd
  have:¬(i<a.length):=by omega
  rw[aC Ov.eq_1]
  simp[B7,h25,h26,this,jO]
 | cons c rest ih =>
  intro i f h hd h5 h24 h25 h26 g aO hn wf
  obtain⟨hi,he,fV⟩:=cN hd
  have n0:¬0=h.n:=by omega
  have m0:¬h.n=0:=by omega
  have Xm:=fun z=>Wy hb z c.name
  rw[aC Ov.eq_1]
  cases hf:b.find? (fun x=>decide (x.name=c.name))with
  | none =>
   rw[hf]at Xm
   simp[h5,h24,h25,h26,hi,he,bC,aO,n0,m0,g,wf,vB,Dp,Xm,turn,jO,hf]
  | some x =>
   rw[hf]at Xm
   cases hw:nS c x with
   | false=>simp[h5,h24,h25,h26,hi,he,bC,aO,n0,m0,g,wf,vB,Dp,Xm,turn,jO,hf,s6,b9,hw]
   | true =>
    simp[h5,h24,h25,h26,hi,he,bC,aO,n0,m0,g,wf,vB,Dp,Xm,turn,s6,b9,hw]
    rw[bE (by omega) (by omega)]
    refine(ih (i+1) _ _ fV ?_ ?_ ?_ ?_ ?_ ?_ ?_ ?_).trans ?_<;>simp[h5,h24,h25,bC,g,aO,n0,m0,wf,jO,hf,hw]<;>omega
theorem s226(a b:bN)(hb:oP b)(XE:a.length≤1000000)(hlb:b.length≤1000000):pcF D AB [bQ a,bQ b]=some (.bool (jO a b)):=by
 unfold pcF
 rw[aP _ _ _ _ (by simp[AB])]
 simp only[bQ]
 simp[AB]
 generalize hF:upd _ 15 _=F
 obtain⟨f',h',k1,k2,k3,k4,k5,k6,k7⟩:=l226 [] b hb hlb a b [] 0 F (pY.push (.mp [])) (by simp) rfl (by rw[←hF];simp) (by rw[←hF];simp) (by rw[←hF];simp) (by rw[←hF];simp) (by rw[←hF];simp) (by simp[lR]) (by simp) (by simp) (by simp)
 rw[k1]
 clear hF k1
 simp[Ox,k2]
 refine(m226 a b hb XE a 0 _ h' rfl ?_ ?_ ?_ ?_ k4 k5 k6 k7)<;>simp[k3]
end Go.Dm.Tc
/-
What functions of the program compute,part 15: an entry's place;an entry found;a tree's entries.
-/
namespace Go.Dm.Tc
def gU(tree sub:ID)(e:bB):Int:=if e.tree=tree∧e.sub=sub then 0 else if iD e.tree tree=true∨(e.tree=tree∧iD e.sub sub=true)then -1 else 1
theorem kS{a b:ID}:iD a b=true↔a.aW<b.aW∨a.aW=b.aW∧a.seq<b.seq:=by
 unfold iD;rw[decide_eq_true_iff,hM]
theorem ID.ext'{a b:ID}:a=b↔a.aW=b.aW∧a.seq=b.seq:=by cases a;cases b;simp
theorem uC{tree sub:ID}{e:bB}:gU tree sub e<0↔iD e.tree tree=true∨(e.tree=tree∧iD e.sub sub=true):=by
 unfold gU
 split
 ·rename_i h
  rw[h.1,h.2,kS,kS]
  constructor
  ·intro q;omega
  ·rintro(q|⟨_,q⟩)<;>omega
 ·split
  ·rename_i h;exact⟨fun _=>h,fun _=>by decide⟩
  ·rename_i h;exact⟨fun q=>by omega,fun q=>absurd q h⟩
theorem uD{tree sub:ID}{e:bB}:gU tree sub e=0↔e.tree=tree∧e.sub=sub:=by
 unfold gU
 split
 ·rename_i h;exact⟨fun _=>h,fun _=>rfl⟩
 ·rename_i h
  split<;>exact⟨fun q=>by omega,fun q=>absurd q h⟩
theorem QO(a b:bB):ltE a b=true↔gU b.tree b.sub a<0:=by
 rw[uC,kS,kS]
 unfold ltE SH orI
 rw[decide_eq_true_iff]
 split
 ·rename_i h
  rw[wZ]at h
  rw[hM,h]
  constructor
  ·intro q;exact .inr ⟨rfl,q⟩
  ·rintro(q|⟨_,q⟩)
   ·omega
   ·exact q
 ·rename_i h
  rw[wZ]at h
  rw[hM]
  constructor
  ·intro q;exact .inl q
  ·rintro(q|⟨q,_⟩)
   ·exact q
   ·exact absurd q h
def jR(l:List bB):Prop:=l.Pairwise fun a b=>gU b.tree b.sub a<0
theorem Ht{t s:ID}{a b:bB}(h1:gU b.tree b.sub a<0)(h2:gU t s b≤0):gU t s a<0:=by
 rw[uC,kS,kS]at *
 by_cases h0:gU t s b=0
 ·rw[uD]at h0
  rw[h0.1,h0.2]at h1
  exact h1
 ·have h3:gU t s b<0:=by omega
  rw[uC,kS,kS]at h3
  rw[ID.ext']at *
  omega
theorem l7{l:List bB}(h:jR l)(t s:ID):∀i j (hi:i<l.length) (hj:j<l.length),i≤j→gU t s l[j]<0→gU t s l[i]<0:=by
 intro i j hi hj NP aZ
 rcases Nat.lt_or_eq_of_le NP with hl|rfl
 ·exact Ht (List.pairwise_iff_getElem.1 h i j hi hj hl) (by omega)
 ·exact aZ
theorem Ng:∀{l:List bB},jR l→cH ltE l=true
 | [],_=>rfl
 | [a],_=>rfl
 | a::b::r,h=>by
  unfold jR at h
  rw[List.pairwise_cons]at h
  simp only[cH,Bool.and_eq_true]
  exact⟨(QO a b).2 (h.1 b (List.mem_cons_self ..)),Ng (l:=b::r) h.2⟩
def isE(tree sub:ID)(e:bB):Bool:=decide (e.tree=tree∧e.sub=sub)
end Go.Dm.Tc
/-
What functions of the program compute,part 16: an entry found;a tree's entries;is a predicate covered?
-/
namespace Go.Dm.Tc
def ofT(tree:ID)(l:List bB):List bB:=l.filter fun e=>decide (e.tree=tree)
theorem l224(t:Bool)(l:List bB)(c d:Int)(hl:l.length≤1000000)(h0:aA)(g1:h0.get 1=some (.arr 45 2 [.agg [.int .i64 c,.int .i64 d]] (some 1)))(aO:h0.lim=0)(hn:2≤h0.n) :
  ∀(rest iA:List bB) (i:Nat) (f:dJ) (h:aA),l.drop i=rest→iA.length≤i→f 3=.ptr 1 2 0 0→f 9=eL t 7 aN l→f 10=.int .i64 l.length→f 11=.int .i64 i→OwnR 2 h (f 5) 70 7 (iA.map aN)→Ext 2 h0 h →
  dY (fin [.t 4] (run D 25 [.block 0,.seq B8] (.loop Oy) f h))=some (eL false 7 aN (iA++ofT ⟨c,d⟩ rest)):=by
 intro rest
 induction rest with
 | nil =>
  intro iA i f h hd ha h3 h9 jY pT ho hx
  have hi:=cY hd
  have:¬(i<l.length):=by omega
  rw[aC Oy.eq_1]
  simp only[ofT,List.filter_nil,List.append_nil]
  have hout:=ho.out (k:=22) (fun y _=>(fW y).1.mono (by decide)) (fun y _=>(fW y).2) (by decide)
  simp[B8,jY,pT,this,-uJ]
  exact hout
 | cons e rest ih =>
  intro iA i f h hd ha h3 h9 jY pT ho hx
  obtain⟨hi,he,fV⟩:=cN hd
  have hlH:h.lim=0:=hx.lim.trans aO
  have No:=(hx.get 1 (by decide)).trans g1
  have hnh:=hx.le
  have n1:¬1=h.n:=by omega
  have hw:IntKind.i64.wrap ((i:Int)+1)=(i:Int)+1:=bE (by omega) (by omega)
  rw[aC Oy.eq_1]
  by_cases hc:e.tree=⟨c,d⟩
  ·have vP:e.tree.aW=c:=by rw[hc]
   have Ge:e.tree.seq=d:=by rw[hc]
   have hf:ofT ⟨c,d⟩ (e::rest)=e::ofT ⟨c,d⟩ rest:=by simp[ofT,hc]
   rw[hf,List.append_cons]
   simp[h3,h9,jY,pT,hi,he,hlH,No,n1,aN,vP,Ge]
   generalize hA:aU _ _ _ _ _ _=A
   obtain⟨v',h',rfl,Xl,Bl,_⟩:=ho.push.push.append hx.push.push.wf (hx.push.push.le) (by simp[hlH]) hA (by simp;omega) (by decide)
   clear hA
   simp[pT,hw]
   generalize hF:upd _ 11 _=F
   have:=ih (iA++[e]) (i+1) F h' fV (by simp;omega) (by rw[←hF];simp[h3]) (by rw[←hF];simp[h9]) (by rw[←hF];simp[jY]) (by rw[←hF];simp) (by rw[←hF];simp;simpa[aN,vP,Ge]using Xl) (hx.push.push.trans Bl)
   simpa using this
  ·have Ti:=En hc
   simp only at Ti
   have hf:ofT ⟨c,d⟩ (e::rest)=ofT ⟨c,d⟩ rest:=by simp[ofT,hc]
   rw[hf]
   simp[h3,h9,jY,pT,hi,he,hlH,No,n1,aN,Ti,hw]
   generalize hF:upd _ 11 _=F
   exact ih iA (i+1) F _ fV (by omega) (by rw[←hF];simp[h3]) (by rw[←hF];simp[h9]) (by rw[←hF];simp[jY]) (by rw[←hF];simp) (by rw[←hF];simp;exact ho.push) hx.push
theorem s224(x0 x1 x2 x3 x5:DV)(t:Bool)(l:List bB)(c d:Int)(hl:l.length≤1000000) :
  pcF D AD [.agg [x0,x1,x2,x3,eL t 7 aN l,x5],.agg [.int .i64 c,.int .i64 d]]=some (eL false 7 aN (ofT ⟨c,d⟩ l)):=by
 unfold pcF
 rw[aP _ _ _ _ (by simp[AD])]
 simp[AD,-uJ]
 refine(l224 t l c d hl _ ?_ ?_ ?_ l [] 0 _ _ rfl (by simp) ?_ ?_ ?_ ?_ ?_ (Ext.refl ?_ ?_))<;>simp
 exact .nil rfl rfl
theorem s225(tg:Bool)(e:bB)(p:bN)(hu:oP p)(hp:p.length≤1000000)(he:e.pred.length≤1000000):pcF D AC [.agg [.int .i64 e.tree.aW,.int .i64 e.tree.seq,.int .i64 e.sub.aW,.int .i64 e.sub.seq,bQ e.pred,.int .i64 e.cJ,.bool e.up],.iptr tg [bQ p] 0]=some (.bool (e.up && jO e.pred p)):=by
 unfold pcF
 rw[aP _ _ _ _ (by simp[AC])]
 cases e.up<;>simp[AC,e226,s226,hu,hp,he]
def bV(l:List bB)(tree:ID)(p:bN):Bool:=(ofT tree l).any fun e=>e.up && jO e.pred p
theorem s164(x0 x1 x2 x3 x5:DV)(t:Bool)(l:List bB)(c d:Int)(p:bN)(hl:l.length≤1000000)(hu:oP p)(hp:p.length≤1000000)(he:∀e∈l,e.pred.length≤1000000)(f0:gP 20 x0)(f1:gP 20 x1)(f2:gP 20 x2)(f3:gP 20 x3)(f5:gP 20 x5) :
  pcF D AR [.agg [x0,x1,x2,x3,eL t 7 aN l,x5],.agg [.int .i64 c,.int .i64 d],bQ p]=some (.bool (bV l ⟨c,d⟩ p)):=by
 have g0:∀h,resolve true h 199 x0=some x0:=fun h=>f0 _ _ _ (by decide)
 have g1:∀h,resolve true h 199 x1=some x1:=fun h=>f1 _ _ _ (by decide)
 have g2:∀h,resolve true h 199 x2=some x2:=fun h=>f2 _ _ _ (by decide)
 have g3:∀h,resolve true h 199 x3=some x3:=fun h=>f3 _ _ _ (by decide)
 have g5:∀h,resolve true h 199 x5=some x5:=fun h=>f5 _ _ _ (by decide)
 have fY:(ofT ⟨c,d⟩ l).length≤1000000:=Nat.le_trans (List.length_filter_le ..) hl
 have NT:=d7 false (ofT ⟨c,d⟩ l) 225 [.iptr true [bQ p] 0] (fun e=>e.up && jO e.pred p) (fun x hx=>by
  simp only[List.mem_singleton]at hx;subst hx;exact(Dl _ _ _).mono (by decide)) (fun x hx h=>by
  have:=he x (List.mem_filter.1 hx).1
  simp[aN,e225,s225,hu,hp,this]) fY
 unfold pcF
 rw[aP _ _ _ _ (by simp[AR])]
 simp[AR,e224,s224,g0,g1,g2,g3,g5,hl,v7,NT,bV,-List.any_eq_true]
end Go.Dm.Tc
