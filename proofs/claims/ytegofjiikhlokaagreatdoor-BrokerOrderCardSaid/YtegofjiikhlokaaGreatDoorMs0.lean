/- A part of the proof. -/
import Derived.Test.YtegofjiikhlokaaGreatDoorTcE
import Derived.Test.YtegofjiikhlokaaGreatDoorMm4
import Derived.Test.YtegofjiikhlokaaGreatDoorMm5
set_option linter.all false
namespace Go.Dm.Tc
def gY:Option Nat→Int
 | some i=>i
 | none=>-1
theorem l139(t:Bool)(xs:List aV)(g:Nat)(cap:List DV)(p:aV→Bool)(hg:∀x∈xs,∀h,fc D g ([aD x]++cap) h=some (.bool (p x),h))(hl:xs.length≤1000000) :
  ∀(rest:List aV) (i:Nat) (f:cY) (h:aA),xs.drop i=rest→f 0=eL t 7 aD xs→f 1=.func g cap→f 7=.int .i64 xs.length→f 8=.int .i64 i →
  dC (fin [.t 4] (run D 19 [.block 0,.seq J4] (.loop Rd) f h))=some (.int .i64 (gY ((rest.findIdx? p).map (·+i)))):=by
 intro rest
 induction rest with
 | nil =>
  intro i f h hd h0 h1 h7 h8
  have hi:=bR hd
  have:¬(i<xs.length):=by omega
  rw[aC Rd.eq_1]
  simp[J4,h7,h8,this,gY]
 | cons e rest ih =>
  intro i f h hd h0 h1 h7 h8
  obtain⟨hi,he,fI⟩:=cB hd
  have sM:=hg e (by rw[←he];exact List.getElem_mem hi)
  simp only[aD,List.cons_append,List.nil_append]at sM
  rw[aC Rd.eq_1]
  cases hp:p e with
  | true=>simp[h0,h1,h7,h8,hi,he,aD,sM,hp,gY,List.findIdx?_cons]
  | false =>
   simp[h0,h1,h7,h8,hi,he,aD,sM,hp]
   rw[aX (by omega) (by omega)]
   refine(ih (i+1) _ h fI ?_ ?_ ?_ ?_).trans ?_<;>simp[h0,h1,h7,List.findIdx?_cons,hp]
   congr 2
   funext q
   simp
   omega
theorem s139(t:Bool)(xs:List aV)(g:Nat)(cap:List DV)(p:aV→Bool)(hg:∀x∈xs,∀h,fc D g ([aD x]++cap) h=some (.bool (p x),h))(hl:xs.length≤1000000) :
  pcF D DR [eL t 7 aD xs,.func g cap]=some (.int .i64 (gY (xs.findIdx? p))):=by
 unfold pcF
 rw[aJ _ _ _ _ (by simp[DR])]
 simp[DR]
 refine(l139 t xs g cap p hg hl xs 0 _ _ rfl ?_ ?_ ?_ ?_).trans ?_<;>simp
theorem NZ{α:Type}(p:α→Bool)(xs:List α):decide (0≤gY (xs.findIdx? p))=xs.any p:=by
 cases h:xs.findIdx? p with
 | none =>
  rw[List.findIdx?_eq_none_iff]at h
  simp only[gY]
  have:xs.any p=false:=by rw[List.any_eq_false];exact fun x hx=>by simp[h x hx]
  rw[this];rfl
 | some i =>
  have:=List.findIdx?_eq_some_iff_getElem.1 h
  obtain⟨hi,hp,_⟩:=this
  have:xs.any p=true:=List.any_eq_true.2 ⟨_,List.getElem_mem hi,hp⟩
  rw[this]
  simp[gY]
theorem s84(t:Bool)(xs:List aV)(g:Nat)(cap:List DV)(p:aV→Bool)(hc:∀x∈cap,jU 20 x)(hg:∀x∈xs,∀h,fc D g ([aD x]++cap) h=some (.bool (p x),h))(hl:xs.length≤1000000) :
  pcF D t84 [eL t 7 aD xs,.func g cap]=some (.bool (xs.any p)):=by
 unfold pcF
 rw[aJ _ _ _ _ (by simp[t84])]
 have hf:∀tg h,resolve tg h 200 (.func g cap)=some (.func g cap):=fun tg h=>GS (k:=20) hc tg h 200 (by decide)
 simp[t84,y6,hf,-Cq,s139 t xs g cap p hg hl]
 have:=NZ p xs
 simpa using this
theorem l45(t u:Bool)(xs ys:List Int)(hl:xs.length≤1000000)(qV:xs.length=ys.length) :
  ∀(rest cU:List Int) (i:Nat) (f:cY) (h:aA),xs.drop i=rest→ys.drop i=cU→f 0=eL t 1 bQ xs→f 1=eL u 1 bQ ys→f 12=.int .i64 xs.length→f 13=.int .i64 i →
  dC (fin [.t 4] (run D 26 [.block 0,.seq KD] (.loop Y8) f h))=some (.bool (decide (rest=cU))):=by
 intro rest
 induction rest with
 | nil =>
  intro cU i f h hd rE h0 h1 gQ nC
  have hi:=bR hd
  have:¬(i<xs.length):=by omega
  have hr:cU=[]:=by rw[←rE];exact List.drop_eq_nil_of_le (by omega)
  subst hr
  rw[aC Y8.eq_1]
  simp[KD,gQ,nC,this]
 | cons e rest ih =>
  intro cU i f h hd rE h0 h1 gQ nC
  obtain⟨hi,he,fI⟩:=cB hd
  cases cU with
  | nil=>have:=bR rE;omega
  | cons e' cU =>
   obtain⟨kE,qQ,xP⟩:=cB rE
   rw[aC Y8.eq_1]
   by_cases hp:e=e'
   ·subst hp
    simp[h0,h1,gQ,nC,hi,kE,he,qQ,bQ]
    rw[aX (by omega) (by omega)]
    refine(ih cU (i+1) _ h fI xP ?_ ?_ ?_ ?_).trans ?_<;>simp[h0,h1,gQ,bQ]
   ·have vB:=hp
    first
     | rw[ID.mk.injEq]at vB
     | (cases e;cases e';simp only[ID.mk.injEq,fB.mk.injEq,not_and]at vB)
     | skip
    simp[h0,h1,gQ,nC,hi,kE,he,qQ,bQ,hp,vB,-not_and]
    try (split<;>simp_all)
theorem s45(t u:Bool)(xs ys:List Int)(hl:xs.length≤1000000) :
  pcF D t45 [eL t 1 bQ xs,eL u 1 bQ ys]=some (.bool (decide (xs=ys))):=by
 unfold pcF
 rw[aJ _ _ _ _ (by simp[t45])]
 by_cases qV:xs.length=ys.length
 ·simp[t45,qV]
  refine(l45 t u xs ys hl qV xs ys 0 _ _ rfl rfl ?_ ?_ ?_ ?_).trans ?_<;>simp[qV]
 ·have:xs≠ys:=fun h=>qV (by rw[h])
  have h2:¬((xs.length:Int)=ys.length):=by omega
  simp[t45,h2,this]
theorem l46(t u:Bool)(xs ys:List ID)(hl:xs.length≤1000000)(qV:xs.length=ys.length) :
  ∀(rest cU:List ID) (i:Nat) (f:cY) (h:aA),xs.drop i=rest→ys.drop i=cU→f 0=eL t 2 eID xs→f 1=eL u 2 eID ys→f 12=.int .i64 xs.length→f 13=.int .i64 i →
  dC (fin [.t 4] (run D 26 [.block 0,.seq KC] (.loop Y7) f h))=some (.bool (decide (rest=cU))):=by
 intro rest
 induction rest with
 | nil =>
  intro cU i f h hd rE h0 h1 gQ nC
  have hi:=bR hd
  have:¬(i<xs.length):=by omega
  have hr:cU=[]:=by rw[←rE];exact List.drop_eq_nil_of_le (by omega)
  subst hr
  rw[aC Y7.eq_1]
  simp[KC,gQ,nC,this]
 | cons e rest ih =>
  intro cU i f h hd rE h0 h1 gQ nC
  obtain⟨hi,he,fI⟩:=cB hd
  cases cU with
  | nil=>have:=bR rE;omega
  | cons e' cU =>
   obtain⟨kE,qQ,xP⟩:=cB rE
   rw[aC Y7.eq_1]
   by_cases hp:e=e'
   ·subst hp
    simp[h0,h1,gQ,nC,hi,kE,he,qQ,eID]
    rw[aX (by omega) (by omega)]
    refine(ih cU (i+1) _ h fI xP ?_ ?_ ?_ ?_).trans ?_<;>simp[h0,h1,gQ,eID]
   ·have vB:=hp
    first
     | rw[ID.mk.injEq]at vB
     | (cases e;cases e';simp only[ID.mk.injEq,fB.mk.injEq,not_and]at vB)
     | skip
    simp[h0,h1,gQ,nC,hi,kE,he,qQ,eID,hp,vB,-not_and]
    try (split<;>simp_all)
theorem s46(t u:Bool)(xs ys:List ID)(hl:xs.length≤1000000) :
  pcF D t46 [eL t 2 eID xs,eL u 2 eID ys]=some (.bool (decide (xs=ys))):=by
 unfold pcF
 rw[aJ _ _ _ _ (by simp[t46])]
 by_cases qV:xs.length=ys.length
 ·simp[t46,qV]
  refine(l46 t u xs ys hl qV xs ys 0 _ _ rfl rfl ?_ ?_ ?_ ?_).trans ?_<;>simp[qV]
 ·have:xs≠ys:=fun h=>qV (by rw[h])
  have h2:¬((xs.length:Int)=ys.length):=by omega
  simp[t46,h2,this]
theorem l115(t u:Bool)(xs ys:List fB)(hl:xs.length≤1000000)(qV:xs.length=ys.length) :
  ∀(rest cU:List fB) (i:Nat) (f:cY) (h:aA),xs.drop i=rest→ys.drop i=cU→f 0=eL t 5 aO xs→f 1=eL u 5 aO ys→f 12=.int .i64 xs.length→f 13=.int .i64 i →
  dC (fin [.t 4] (run D 26 [.block 0,.seq J6] (.loop Rh) f h))=some (.bool (decide (rest=cU))):=by
 intro rest
 induction rest with
 | nil =>
  intro cU i f h hd rE h0 h1 gQ nC
  have hi:=bR hd
  have:¬(i<xs.length):=by omega
  have hr:cU=[]:=by rw[←rE];exact List.drop_eq_nil_of_le (by omega)
  subst hr
  rw[aC Rh.eq_1]
  simp[J6,gQ,nC,this]
 | cons e rest ih =>
  intro cU i f h hd rE h0 h1 gQ nC
  obtain⟨hi,he,fI⟩:=cB hd
  cases cU with
  | nil=>have:=bR rE;omega
  | cons e' cU =>
   obtain⟨kE,qQ,xP⟩:=cB rE
   rw[aC Rh.eq_1]
   by_cases hp:e=e'
   ·subst hp
    simp[h0,h1,gQ,nC,hi,kE,he,qQ,aO]
    rw[aX (by omega) (by omega)]
    refine(ih cU (i+1) _ h fI xP ?_ ?_ ?_ ?_).trans ?_<;>simp[h0,h1,gQ,aO]
   ·have vB:=hp
    first
     | rw[ID.mk.injEq]at vB
     | (cases e;cases e';simp only[ID.mk.injEq,fB.mk.injEq,not_and]at vB)
     | skip
    simp[h0,h1,gQ,nC,hi,kE,he,qQ,aO,hp,vB,-not_and]
    try (split<;>simp_all)
theorem s115(t u:Bool)(xs ys:List fB)(hl:xs.length≤1000000) :
  pcF D J7 [eL t 5 aO xs,eL u 5 aO ys]=some (.bool (decide (xs=ys))):=by
 unfold pcF
 rw[aJ _ _ _ _ (by simp[J7])]
 by_cases qV:xs.length=ys.length
 ·simp[J7,qV]
  refine(l115 t u xs ys hl qV xs ys 0 _ _ rfl rfl ?_ ?_ ?_ ?_).trans ?_<;>simp[qV]
 ·have:xs≠ys:=fun h=>qV (by rw[h])
  have h2:¬((xs.length:Int)=ys.length):=by omega
  simp[J7,h2,this]
end Go.Dm.Tc
namespace Go.Dm.Tc
def qT{α β:Type}(p:α→β→Bool):List α→List β→Bool
 | [],[]=>true
 | a::r,b::s=>p a b && qT p r s
 | _,_=>false
def mH{α:Type}(p:α→α→Bool):List α→Bool
 | a::b::r=>p a b && mH p (b::r)
 | _=>true
theorem l50(t u:Bool)(xs ys:List aV)(g:Nat)(p:aV→aV→Bool)(hg:∀x∈xs,∀y∈ys,∀h,fc D g [aD x,aD y] h=some (.bool (p x y),h))(hl:xs.length≤1000000)(qV:xs.length=ys.length) :
  ∀(rest cU:List aV) (i:Nat) (f:cY) (h:aA),xs.drop i=rest→ys.drop i=cU→f 1=eL u 7 aD ys→f 2=.func g []→f 15=eL t 7 aD xs→f 16=.int .i64 xs.length→f 17=.int .i64 i→h.lim=0 →
  dC (fin [.t 6] (run D 32 [.block 0,.seq KA] (.loop Y5) f h))=some (.bool (qT p rest cU)):=by
 intro rest
 induction rest with
 | nil =>
  intro cU i f h hd rE h1 h2 zI zV Dg tB
  have hi:=bR hd
  have:¬(i<xs.length):=by omega
  have hr:cU=[]:=by rw[←rE];exact List.drop_eq_nil_of_le (by omega)
  subst hr
  rw[aC Y5.eq_1]
  simp[KA,zV,Dg,this,qT]
 | cons e rest ih =>
  intro cU i f h hd rE h1 h2 zI zV Dg tB
  obtain⟨hi,he,fI⟩:=cB hd
  cases cU with
  | nil=>have:=bR rE;omega
  | cons e' cU =>
   obtain⟨kE,qQ,xP⟩:=cB rE
   have sM:=hg e (by rw[←he];exact List.getElem_mem hi) e' (by rw[←qQ];exact List.getElem_mem kE)
   simp only[aD]at sM
   rw[aC Y5.eq_1]
   cases hp:p e e' with
   | true =>
    simp[h1,h2,zI,zV,Dg,hi,kE,he,qQ,aD,tB,sM,hp]
    rw[aX (by omega) (by omega)]
    refine(ih cU (i+1) _ _ fI xP ?_ ?_ ?_ ?_ ?_ ?_).trans ?_<;>simp[h1,h2,zI,zV,tB,qT,hp]
   | false =>
    simp[h1,h2,zI,zV,Dg,hi,kE,he,qQ,aD,tB,sM,hp,qT]
theorem s50(t u:Bool)(xs ys:List aV)(g:Nat)(p:aV→aV→Bool)(hg:∀x∈xs,∀y∈ys,∀h,fc D g [aD x,aD y] h=some (.bool (p x y),h))(hl:xs.length≤1000000) :
  pcF D t50 [eL t 7 aD xs,eL u 7 aD ys,.func g []]=some (.bool (qT p xs ys)):=by
 unfold pcF
 rw[aJ _ _ _ _ (by simp[t50])]
 by_cases qV:xs.length=ys.length
 ·simp[t50,qV]
  refine(l50 t u xs ys g p hg hl qV xs ys 0 _ _ rfl rfl ?_ ?_ ?_ ?_ ?_ ?_).trans ?_<;>simp[qV]
 ·have:qT p xs ys=false:=by
   clear hg hl
   induction xs generalizing ys with
   | nil=>cases ys with
    | nil=>simp at qV
    | cons y ys=>rfl
   | cons x xs ih=>cases ys with
    | nil=>rfl
    | cons y ys =>
     simp only[qT]
     rw[ih ys (by simpa using qV)];simp
  have h2:¬((xs.length:Int)=ys.length):=by omega
  simp[t50,h2,this]
theorem l47(t u:Bool)(xs ys:List bC)(g:Nat)(p:bC→bC→Bool)(hg:∀x∈xs,∀y∈ys,∀h,fc D g [aG x,aG y] h=some (.bool (p x y),h))(hl:xs.length≤1000000)(qV:xs.length=ys.length) :
  ∀(rest cU:List bC) (i:Nat) (f:cY) (h:aA),xs.drop i=rest→ys.drop i=cU→f 1=eL u 4 aG ys→f 2=.func g []→f 15=eL t 4 aG xs→f 16=.int .i64 xs.length→f 17=.int .i64 i→h.lim=0 →
  dC (fin [.t 6] (run D 32 [.block 0,.seq KB] (.loop Y6) f h))=some (.bool (qT p rest cU)):=by
 intro rest
 induction rest with
 | nil =>
  intro cU i f h hd rE h1 h2 zI zV Dg tB
  have hi:=bR hd
  have:¬(i<xs.length):=by omega
  have hr:cU=[]:=by rw[←rE];exact List.drop_eq_nil_of_le (by omega)
  subst hr
  rw[aC Y6.eq_1]
  simp[KB,zV,Dg,this,qT]
 | cons e rest ih =>
  intro cU i f h hd rE h1 h2 zI zV Dg tB
  obtain⟨hi,he,fI⟩:=cB hd
  cases cU with
  | nil=>have:=bR rE;omega
  | cons e' cU =>
   obtain⟨kE,qQ,xP⟩:=cB rE
   have sM:=hg e (by rw[←he];exact List.getElem_mem hi) e' (by rw[←qQ];exact List.getElem_mem kE)
   simp only[aG]at sM
   rw[aC Y6.eq_1]
   cases hp:p e e' with
   | true =>
    simp[h1,h2,zI,zV,Dg,hi,kE,he,qQ,aG,tB,sM,hp]
    rw[aX (by omega) (by omega)]
    refine(ih cU (i+1) _ _ fI xP ?_ ?_ ?_ ?_ ?_ ?_).trans ?_<;>simp[h1,h2,zI,zV,tB,qT,hp]
   | false =>
    simp[h1,h2,zI,zV,Dg,hi,kE,he,qQ,aG,tB,sM,hp,qT]
theorem s47(t u:Bool)(xs ys:List bC)(g:Nat)(p:bC→bC→Bool)(hg:∀x∈xs,∀y∈ys,∀h,fc D g [aG x,aG y] h=some (.bool (p x y),h))(hl:xs.length≤1000000) :
  pcF D t47 [eL t 4 aG xs,eL u 4 aG ys,.func g []]=some (.bool (qT p xs ys)):=by
 unfold pcF
 rw[aJ _ _ _ _ (by simp[t47])]
 by_cases qV:xs.length=ys.length
 ·simp[t47,qV]
  refine(l47 t u xs ys g p hg hl qV xs ys 0 _ _ rfl rfl ?_ ?_ ?_ ?_ ?_ ?_).trans ?_<;>simp[qV]
 ·have:qT p xs ys=false:=by
   clear hg hl
   induction xs generalizing ys with
   | nil=>cases ys with
    | nil=>simp at qV
    | cons y ys=>rfl
   | cons x xs ih=>cases ys with
    | nil=>rfl
    | cons y ys =>
     simp only[qT]
     rw[ih ys (by simpa using qV)];simp
  have h2:¬((xs.length:Int)=ys.length):=by omega
  simp[t47,h2,this]
theorem l52(t u:Bool)(xs ys:List fV)(g:Nat)(p:fV→fV→Bool)(hg:∀x∈xs,∀y∈ys,∀h,fc D g [cT x,cT y] h=some (.bool (p x y),h))(hl:xs.length≤1000000)(qV:xs.length=ys.length) :
  ∀(rest cU:List fV) (i:Nat) (f:cY) (h:aA),xs.drop i=rest→ys.drop i=cU→f 1=eL u 3 cT ys→f 2=.func g []→f 15=eL t 3 cT xs→f 16=.int .i64 xs.length→f 17=.int .i64 i→h.lim=0 →
  dC (fin [.t 6] (run D 32 [.block 0,.seq JZ] (.loop Y4) f h))=some (.bool (qT p rest cU)):=by
 intro rest
 induction rest with
 | nil =>
  intro cU i f h hd rE h1 h2 zI zV Dg tB
  have hi:=bR hd
  have:¬(i<xs.length):=by omega
  have hr:cU=[]:=by rw[←rE];exact List.drop_eq_nil_of_le (by omega)
  subst hr
  rw[aC Y4.eq_1]
  simp[JZ,zV,Dg,this,qT]
 | cons e rest ih =>
  intro cU i f h hd rE h1 h2 zI zV Dg tB
  obtain⟨hi,he,fI⟩:=cB hd
  cases cU with
  | nil=>have:=bR rE;omega
  | cons e' cU =>
   obtain⟨kE,qQ,xP⟩:=cB rE
   have sM:=hg e (by rw[←he];exact List.getElem_mem hi) e' (by rw[←qQ];exact List.getElem_mem kE)
   simp only[cT]at sM
   rw[aC Y4.eq_1]
   cases hp:p e e' with
   | true =>
    simp[h1,h2,zI,zV,Dg,hi,kE,he,qQ,cT,tB,sM,hp]
    rw[aX (by omega) (by omega)]
    refine(ih cU (i+1) _ _ fI xP ?_ ?_ ?_ ?_ ?_ ?_).trans ?_<;>simp[h1,h2,zI,zV,tB,qT,hp]
   | false =>
    simp[h1,h2,zI,zV,Dg,hi,kE,he,qQ,cT,tB,sM,hp,qT]
theorem s52(t u:Bool)(xs ys:List fV)(g:Nat)(p:fV→fV→Bool)(hg:∀x∈xs,∀y∈ys,∀h,fc D g [cT x,cT y] h=some (.bool (p x y),h))(hl:xs.length≤1000000) :
  pcF D t52 [eL t 3 cT xs,eL u 3 cT ys,.func g []]=some (.bool (qT p xs ys)):=by
 unfold pcF
 rw[aJ _ _ _ _ (by simp[t52])]
 by_cases qV:xs.length=ys.length
 ·simp[t52,qV]
  refine(l52 t u xs ys g p hg hl qV xs ys 0 _ _ rfl rfl ?_ ?_ ?_ ?_ ?_ ?_).trans ?_<;>simp[qV]
 ·have:qT p xs ys=false:=by
   clear hg hl
   induction xs generalizing ys with
   | nil=>cases ys with
    | nil=>simp at qV
    | cons y ys=>rfl
   | cons x xs ih=>cases ys with
    | nil=>rfl
    | cons y ys =>
     simp only[qT]
     rw[ih ys (by simpa using qV)];simp
  have h2:¬((xs.length:Int)=ys.length):=by omega
  simp[t52,h2,this]
end Go.Dm.Tc
namespace Go.Dm.Tc
def aU{α:Type}(cm:α→Int)(xs:List α):Nat:=xs.findIdx fun x=>!decide (cm x<0)
def fF{α:Type}(cm:α→Int)(xs:List α):Bool:=match xs[aU cm xs]? with|some x=>decide (cm x=0)|none=>false
theorem dB{α:Type}(cm:α→Int)(xs:List α):aU cm xs≤xs.length:=List.findIdx_le_length
theorem pL{α:Type}{cm:α→Int}{xs:List α}{k:Nat}(hk:k≤xs.length)(h1:∀q (hq:q<k),cm (xs[q]'(by omega))<0)(h2:∀(hq:k<xs.length),¬cm xs[k]<0):aU cm xs=k:=by
 unfold aU
 rcases Nat.lt_or_eq_of_le hk with bD|rfl
 ·rw[List.findIdx_eq bD]
  refine⟨by simpa using h2 bD,fun j hj=>by simpa using h1 j hj⟩
 ·rw[List.findIdx_eq_length]
  intro x hx
  obtain⟨i,hi,rfl⟩:=List.mem_iff_getElem.1 hx
  simpa using h1 i hi
theorem l178(t:Bool)(xs:List ID)(c s:Int)(g:Nat)(cap:List DV)(cm:ID→Int)(hg:∀x∈xs,∀h,fc D g ([eID x,.agg [.int .i64 c,.int .i64 s]]++cap) h=some (.int .i64 (cm x),h))(hl:xs.length≤1000000)
  (hm:∀i j (hi:i<xs.length) (hj:j<xs.length),i≤j→cm xs[j]<0→cm xs[i]<0) (h:aA) (cp:Option Nat) (Nv:h.get 0=some (.arr 40 2 [.agg [.int .i64 c,.int .i64 s]] cp)) :
  ∀(n i j:Nat) (f:cY),j-i=n→i≤j→j≤xs.length→f 0=eL t 2 eID xs→f 2=.func g cap→f 4=.ptr 0 2 0 0→f 8=.int .i64 xs.length→f 9=.int .i64 i→f 10=.int .i64 j →
  (∀q (hq:q<i),(uK:q<xs.length)→cm xs[q]<0)→(∀q (hq:q<xs.length),j≤q→¬cm xs[q]<0) →
  dC (fin [.t 6,.t 7] (run D 49 [.block 0,.seq Qm] (.loop I2) f h))=some (.tup [.int .i64 (aU cm xs),.bool (fF cm xs)]):=by
 intro n
 induction n using Nat.strongRecOn with
 | ind n ih =>
  intro i j f hn UB hj h0 h2 h4 h8 h9 iA iG nP
  rw[aC I2.eq_1]
  by_cases bD:i<j
  ·have hk:(i+j) / 2<xs.length:=by omega
   have Ty:xs[(i+j) / 2]?=some xs[(i+j) / 2]:=List.getElem?_eq_getElem hk
   have sM:=hg xs[(i+j) / 2] (List.getElem_mem hk)
   simp only[eID,List.cons_append,List.nil_append]at sM
   have w1:IntKind.i64.wrap ((i:Int)+j)=((i:Int)+j):=aX (by omega) (by omega)
   have w2:IntKind.u64.wrap ((i:Int)+j)=((i:Int)+j):=By (by omega) (by omega)
   have w3:IntKind.i64.wrap (((i+j) / 2:Nat):Int)=((i+j) / 2:Nat):=aX (by omega) (by omega)
   have w4:IntKind.i64.wrap ((((i+j) / 2:Nat):Int)+1)=((((i+j) / 2:Nat):Int)+1):=aX (by omega) (by omega)
   by_cases hc:cm xs[(i+j) / 2]<0
   ·simp[h0,h2,h4,h8,h9,iA,bD,hk,Ty,Nv,sM,eID,w1,w2,w3,w4,hc,-Int.natCast_ediv]
    refine ih (j-((i+j) / 2+1)) (by omega) ((i+j) / 2+1) j _ rfl (by omega) hj ?_ ?_ ?_ ?_ ?_ ?_ ?_ nP<;>try simp[h0,h2,h4,h8,iA,eID]
    intro q hq uK
    exact hm q ((i+j) / 2) uK hk (by omega) hc
   ·simp[h0,h2,h4,h8,h9,iA,bD,hk,Ty,Nv,sM,eID,w1,w2,w3,w4,hc,-Int.natCast_ediv]
    refine ih ((i+j) / 2-i) (by omega) i ((i+j) / 2) _ rfl (by omega) (by omega) ?_ ?_ ?_ ?_ ?_ ?_ iG ?_<;>simp[h0,h2,h4,h8,h9,eID]
    intro q hq uK
    exact Int.not_lt.1 fun hx=>hc (hm ((i+j) / 2) q hk hq uK hx)
  ·have S7:i=j:=by omega
   subst S7
   have dV:aU cm xs=i:=pL hj (fun q hq=>iG q hq (by omega)) (fun hq=>nP i hq (Nat.le_refl i))
   by_cases hi:i<xs.length
   ·have sM:=hg xs[i] (List.getElem_mem hi)
    simp only[eID,List.cons_append,List.nil_append]at sM
    have Ty:xs[i]?=some xs[i]:=List.getElem?_eq_getElem hi
    simp[Qm,h0,h2,h4,h8,h9,iA,hi,Ty,Nv,sM,eID,dV,fF,aI]
    rfl
   ·simp[Qm,h0,h2,h4,h8,h9,iA,hi,dV,fF,aI]
theorem s178(t:Bool)(xs:List ID)(c s:Int)(g:Nat)(cap:List DV)(cm:ID→Int)(hg:∀x∈xs,∀h,fc D g ([eID x,.agg [.int .i64 c,.int .i64 s]]++cap) h=some (.int .i64 (cm x),h))(hl:xs.length≤1000000)
  (hm:∀i j (hi:i<xs.length) (hj:j<xs.length),i≤j→cm xs[j]<0→cm xs[i]<0) :
  pcF D DA [eL t 2 eID xs,.agg [.int .i64 c,.int .i64 s],.func g cap]=some (.tup [.int .i64 (aU cm xs),.bool (fF cm xs)]):=by
 unfold pcF
 rw[aJ _ _ _ _ (by simp[DA])]
 simp[DA]
 refine l178 t xs c s g cap cm hg hl hm _ (some 1) (by simp) xs.length 0 xs.length _ (by omega) (by omega) (by omega) ?_ ?_ ?_ ?_ ?_ ?_ ?_ ?_<;>simp
 intro q hq uK
 omega
theorem l180(t:Bool)(xs:List bC)(c s:Int)(g:Nat)(cap:List DV)(cm:bC→Int)(hg:∀x∈xs,∀h,fc D g ([aG x,.agg [.int .i64 c,.int .i64 s]]++cap) h=some (.int .i64 (cm x),h))(hl:xs.length≤1000000)
  (hm:∀i j (hi:i<xs.length) (hj:j<xs.length),i≤j→cm xs[j]<0→cm xs[i]<0) (h:aA) (cp:Option Nat) (Nv:h.get 0=some (.arr 40 2 [.agg [.int .i64 c,.int .i64 s]] cp)) :
  ∀(n i j:Nat) (f:cY),j-i=n→i≤j→j≤xs.length→f 0=eL t 4 aG xs→f 2=.func g cap→f 4=.ptr 0 2 0 0→f 8=.int .i64 xs.length→f 9=.int .i64 i→f 10=.int .i64 j →
  (∀q (hq:q<i),(uK:q<xs.length)→cm xs[q]<0)→(∀q (hq:q<xs.length),j≤q→¬cm xs[q]<0) →
  dC (fin [.t 6,.t 7] (run D 49 [.block 0,.seq Ql] (.loop H9) f h))=some (.tup [.int .i64 (aU cm xs),.bool (fF cm xs)]):=by
 intro n
 induction n using Nat.strongRecOn with
 | ind n ih =>
  intro i j f hn UB hj h0 h2 h4 h8 h9 iA iG nP
  rw[aC H9.eq_1]
  by_cases bD:i<j
  ·have hk:(i+j) / 2<xs.length:=by omega
   have Ty:xs[(i+j) / 2]?=some xs[(i+j) / 2]:=List.getElem?_eq_getElem hk
   have sM:=hg xs[(i+j) / 2] (List.getElem_mem hk)
   simp only[aG,List.cons_append,List.nil_append]at sM
   have w1:IntKind.i64.wrap ((i:Int)+j)=((i:Int)+j):=aX (by omega) (by omega)
   have w2:IntKind.u64.wrap ((i:Int)+j)=((i:Int)+j):=By (by omega) (by omega)
   have w3:IntKind.i64.wrap (((i+j) / 2:Nat):Int)=((i+j) / 2:Nat):=aX (by omega) (by omega)
   have w4:IntKind.i64.wrap ((((i+j) / 2:Nat):Int)+1)=((((i+j) / 2:Nat):Int)+1):=aX (by omega) (by omega)
   by_cases hc:cm xs[(i+j) / 2]<0
   ·simp[h0,h2,h4,h8,h9,iA,bD,hk,Ty,Nv,sM,aG,w1,w2,w3,w4,hc,-Int.natCast_ediv]
    refine ih (j-((i+j) / 2+1)) (by omega) ((i+j) / 2+1) j _ rfl (by omega) hj ?_ ?_ ?_ ?_ ?_ ?_ ?_ nP<;>try simp[h0,h2,h4,h8,iA,aG]
    intro q hq uK
    exact hm q ((i+j) / 2) uK hk (by omega) hc
   ·simp[h0,h2,h4,h8,h9,iA,bD,hk,Ty,Nv,sM,aG,w1,w2,w3,w4,hc,-Int.natCast_ediv]
    refine ih ((i+j) / 2-i) (by omega) i ((i+j) / 2) _ rfl (by omega) (by omega) ?_ ?_ ?_ ?_ ?_ ?_ iG ?_<;>simp[h0,h2,h4,h8,h9,aG]
    intro q hq uK
    exact Int.not_lt.1 fun hx=>hc (hm ((i+j) / 2) q hk hq uK hx)
  ·have S7:i=j:=by omega
   subst S7
   have dV:aU cm xs=i:=pL hj (fun q hq=>iG q hq (by omega)) (fun hq=>nP i hq (Nat.le_refl i))
   by_cases hi:i<xs.length
   ·have sM:=hg xs[i] (List.getElem_mem hi)
    simp only[aG,List.cons_append,List.nil_append]at sM
    have Ty:xs[i]?=some xs[i]:=List.getElem?_eq_getElem hi
    simp[Ql,h0,h2,h4,h8,h9,iA,hi,Ty,Nv,sM,aG,dV,fF,aI]
    rfl
   ·simp[Ql,h0,h2,h4,h8,h9,iA,hi,dV,fF,aI]
theorem s180(t:Bool)(xs:List bC)(c s:Int)(g:Nat)(cap:List DV)(cm:bC→Int)(hg:∀x∈xs,∀h,fc D g ([aG x,.agg [.int .i64 c,.int .i64 s]]++cap) h=some (.int .i64 (cm x),h))(hl:xs.length≤1000000)
  (hm:∀i j (hi:i<xs.length) (hj:j<xs.length),i≤j→cm xs[j]<0→cm xs[i]<0) :
  pcF D CZ [eL t 4 aG xs,.agg [.int .i64 c,.int .i64 s],.func g cap]=some (.tup [.int .i64 (aU cm xs),.bool (fF cm xs)]):=by
 unfold pcF
 rw[aJ _ _ _ _ (by simp[CZ])]
 simp[CZ]
 refine l180 t xs c s g cap cm hg hl hm _ (some 1) (by simp) xs.length 0 xs.length _ (by omega) (by omega) (by omega) ?_ ?_ ?_ ?_ ?_ ?_ ?_ ?_<;>simp
 intro q hq uK
 omega
theorem l194(t:Bool)(xs:List aV)(c s:Int)(g:Nat)(cap:List DV)(cm:aV→Int)(hg:∀x∈xs,∀h,fc D g ([aD x,.agg [.int .i64 c,.int .i64 s]]++cap) h=some (.int .i64 (cm x),h))(hl:xs.length≤1000000)
  (hm:∀i j (hi:i<xs.length) (hj:j<xs.length),i≤j→cm xs[j]<0→cm xs[i]<0) (h:aA) (cp:Option Nat) (Nv:h.get 0=some (.arr 40 2 [.agg [.int .i64 c,.int .i64 s]] cp)) :
  ∀(n i j:Nat) (f:cY),j-i=n→i≤j→j≤xs.length→f 0=eL t 7 aD xs→f 2=.func g cap→f 4=.ptr 0 2 0 0→f 8=.int .i64 xs.length→f 9=.int .i64 i→f 10=.int .i64 j →
  (∀q (hq:q<i),(uK:q<xs.length)→cm xs[q]<0)→(∀q (hq:q<xs.length),j≤q→¬cm xs[q]<0) →
  dC (fin [.t 6,.t 7] (run D 49 [.block 0,.seq Qf] (.loop G9) f h))=some (.tup [.int .i64 (aU cm xs),.bool (fF cm xs)]):=by
 intro n
 induction n using Nat.strongRecOn with
 | ind n ih =>
  intro i j f hn UB hj h0 h2 h4 h8 h9 iA iG nP
  rw[aC G9.eq_1]
  by_cases bD:i<j
  ·have hk:(i+j) / 2<xs.length:=by omega
   have Ty:xs[(i+j) / 2]?=some xs[(i+j) / 2]:=List.getElem?_eq_getElem hk
   have sM:=hg xs[(i+j) / 2] (List.getElem_mem hk)
   simp only[aD,List.cons_append,List.nil_append]at sM
   have w1:IntKind.i64.wrap ((i:Int)+j)=((i:Int)+j):=aX (by omega) (by omega)
   have w2:IntKind.u64.wrap ((i:Int)+j)=((i:Int)+j):=By (by omega) (by omega)
   have w3:IntKind.i64.wrap (((i+j) / 2:Nat):Int)=((i+j) / 2:Nat):=aX (by omega) (by omega)
   have w4:IntKind.i64.wrap ((((i+j) / 2:Nat):Int)+1)=((((i+j) / 2:Nat):Int)+1):=aX (by omega) (by omega)
   by_cases hc:cm xs[(i+j) / 2]<0
   ·simp[h0,h2,h4,h8,h9,iA,bD,hk,Ty,Nv,sM,aD,w1,w2,w3,w4,hc,-Int.natCast_ediv]
    refine ih (j-((i+j) / 2+1)) (by omega) ((i+j) / 2+1) j _ rfl (by omega) hj ?_ ?_ ?_ ?_ ?_ ?_ ?_ nP<;>try simp[h0,h2,h4,h8,iA,aD]
    intro q hq uK
    exact hm q ((i+j) / 2) uK hk (by omega) hc
   ·simp[h0,h2,h4,h8,h9,iA,bD,hk,Ty,Nv,sM,aD,w1,w2,w3,w4,hc,-Int.natCast_ediv]
    refine ih ((i+j) / 2-i) (by omega) i ((i+j) / 2) _ rfl (by omega) (by omega) ?_ ?_ ?_ ?_ ?_ ?_ iG ?_<;>simp[h0,h2,h4,h8,h9,aD]
    intro q hq uK
    exact Int.not_lt.1 fun hx=>hc (hm ((i+j) / 2) q hk hq uK hx)
  ·have S7:i=j:=by omega
   subst S7
   have dV:aU cm xs=i:=pL hj (fun q hq=>iG q hq (by omega)) (fun hq=>nP i hq (Nat.le_refl i))
   by_cases hi:i<xs.length
   ·have sM:=hg xs[i] (List.getElem_mem hi)
    simp only[aD,List.cons_append,List.nil_append]at sM
    have Ty:xs[i]?=some xs[i]:=List.getElem?_eq_getElem hi
    simp[Qf,h0,h2,h4,h8,h9,iA,hi,Ty,Nv,sM,aD,dV,fF,aI]
    rfl
   ·simp[Qf,h0,h2,h4,h8,h9,iA,hi,dV,fF,aI]
theorem s194(t:Bool)(xs:List aV)(c s:Int)(g:Nat)(cap:List DV)(cm:aV→Int)(hg:∀x∈xs,∀h,fc D g ([aD x,.agg [.int .i64 c,.int .i64 s]]++cap) h=some (.int .i64 (cm x),h))(hl:xs.length≤1000000)
  (hm:∀i j (hi:i<xs.length) (hj:j<xs.length),i≤j→cm xs[j]<0→cm xs[i]<0) :
  pcF D CV [eL t 7 aD xs,.agg [.int .i64 c,.int .i64 s],.func g cap]=some (.tup [.int .i64 (aU cm xs),.bool (fF cm xs)]):=by
 unfold pcF
 rw[aJ _ _ _ _ (by simp[CV])]
 simp[CV]
 refine l194 t xs c s g cap cm hg hl hm _ (some 1) (by simp) xs.length 0 xs.length _ (by omega) (by omega) (by omega) ?_ ?_ ?_ ?_ ?_ ?_ ?_ ?_<;>simp
 intro q hq uK
 omega
end Go.Dm.Tc
namespace Go.Dm.Tc
theorem a152(H:aA)(n0:Nat)(xs:List bC)(i:Nat)(x:bC)(jL vety:Nat)(vcap:Option Nat)(g0:H.get n0=some (.arr 93 4 (xs.map aG++[.unk]) none))(gv:H.get jL=some (.arr vety 4 [aG x] vcap))(hi:i≤xs.length)(hl:xs.length≤1000000)(wf:WF H)(aM:H.lim≤n0)(eG:jL≠n0) :
  ∃ H',iV (ev D) Aj [.sl n0 4 0 xs.length,.int .i64 i,.sl jL 4 0 1] H=some (.sl n0 4 0 (xs.length+1),H')∧H'.get n0=some (.arr 93 4 ((xs.take i++x::xs.drop i).map aG) none):=by
 have bD:=bB g0
 have w1:IntKind.i64.wrap ((xs.length:Int)+1)=(xs.length:Int)+1:=aX (by omega) (by omega)
 rw[aJ _ _ _ _ (by simp[Aj])]
 by_cases rZ:i=xs.length
 ·subst rZ
  simp[Aj,g0,gv]
  rw[kS g0 (by simp) aM (by simp;omega) (by decide) (by simp)]
  simp[cA wf bD,dE]
 ·have Az:¬((i:Int)=xs.length):=by omega
  have w2:IntKind.i64.wrap ((i:Int)+1)=(i:Int)+1:=aX (by omega) (by omega)
  have lS:i+1≤xs.length+1:=by omega
  have OF:i+1+(xs.length-i)≤xs.length+1:=by omega
  have UC:i+(xs.length+1-i)≤xs.length+1:=by omega
  have n9:i≤xs.length+1:=by omega
  have hx:i<(xs.map aG).length:=by simp;omega
  have e1:=yT (xs.map aG) .unk i hx
  have e2:=Hr (xs.map aG) (aG x) i hx
  have WE:xs.length+1≤min (i+1) xs.length+(xs.length-i):=by omega
  have m9:i+1≤min (i+1) xs.length+(xs.length-i):=by omega
  simp only[List.length_map]at e1 e2
  simp[Aj,g0,gv,Az,hi,w1,w2,e1,e2,WE,m9,lS,OF,UC,n9,e188,eD,eG,aM,bD,cA wf,cA wf.set]
  have e3:List.take (xs.length+1-i) [aG x]=[aG x]:=List.take_of_length_le (by simp;omega)
  rw[e3,e2]
theorem b152(H:aA)(n0:Nat)(xs:List bC)(i:Nat)(x:bC)(jL vety:Nat)(vcap:Option Nat)(g0:H.get n0=some (.arr 93 4 (xs.map aG) (some xs.length)))(gv:H.get jL=some (.arr vety 4 [aG x] vcap))(hi:i≤xs.length)(hl:xs.length≤1000000)(wf:WF H)(aM:H.lim≤n0)(eG:jL≠n0) :
  ∃ H',iV (ev D) Aj [.sl n0 4 0 xs.length,.int .i64 i,.sl jL 4 0 1] H=some (.sl H.n 4 0 (xs.length+1),H')∧H'.get H.n=some (.arr 93 4 ((xs.take i++x::xs.drop i).map aG) none):=by
 have bD:=bB g0
 have Tr:=bB gv
 have w1:IntKind.i64.wrap ((xs.length:Int)+1)=(xs.length:Int)+1:=aX (by omega) (by omega)
 rw[aJ _ _ _ _ (by simp[Aj])]
 by_cases rZ:i=xs.length
 ·subst rZ
  simp[Aj,g0,gv]
  rw[hZ g0 (by simp) (by simp) (by simp;omega) (by decide) (by simp)]
  simp
  rw[List.take_of_length_le (by simp)]
 ·have Az:¬((i:Int)=xs.length):=by omega
  have w2:IntKind.i64.wrap ((i:Int)+1)=(i:Int)+1:=aX (by omega) (by omega)
  have w3:IntKind.i64.wrap ((xs.length:Int)+1-i)=((xs.length+1-i:Nat):Int):=by rw[aX (by omega) (by omega)];omega
  have hx:i<(xs.map aG).length:=by simp;omega
  have hq:(xs.length:Int)<(xs.length:Int)+1:=by omega
  have Ec:H.lim≤H.n:=by omega
  have hz:((xs.length+1-i:Nat):Int)≤140737488355328:=by omega
  have e1:=fun z=>Cv (xs.map aG) z (aG x) i hx
  have e2:=fun z=>Cu (xs.map aG) z (aG x) i hx
  have e3:i+(xs.length+1-i)=xs.length+1:=by omega
  have e4:i+(xs.length-i+1)=xs.length+1:=by omega
  have e5:i+1≤xs.length+1:=by omega
  have e6:i+1+(xs.length-i)≤xs.length+1:=by omega
  have e7:i≤xs.length+1:=by omega
  have e8:List.take (xs.length+1-i) [aG x]=[aG x]:=List.take_of_length_le (by simp;omega)
  have e9:List.take (xs.length-i) (List.drop i (List.map aG xs))=List.drop i (List.map aG xs):=List.take_of_length_le (by simp)
  simp only[List.length_map]at e1 e2
  simp[Aj,g0,gv,Az,hi,w1,w2,w3,hq,hz]
  rw[hZ g0 (by simp;omega) (by simp;omega) (by simp;omega) (by decide) (by simp;omega)]
  simp[g0,gv,w2,hi,bD,Tr,aM,Ec,e3,e4,e5,e6,e7,e1,e2,e8,e9,Nat.ne_of_lt bD,Nat.ne_of_lt Tr,Nat.min_eq_left hi]
theorem s152(lo:Nat)(h:aA)(v:DV)(xs:List bC)(i:Nat)(x:bC)(jL vety c:Nat)(ho:Own lo h v 93 4 (xs.map aG))(gv:h.get jL=some (.arr vety 4 [aG x] (some c)))(hi:i≤xs.length)(hl:xs.length≤1000000)(wf:WF h)(dV:lo≤h.n)(aM:h.lim≤h.n) :
  ∃ v' h',fc D 152 [v,.int .i64 i,.sl jL 4 0 1] h=some (v',h')∧Own lo h' v' 93 4 ((xs.take i++x::xs.drop i).map aG)∧Ext lo h h'∧iH 93 h h':=by
 have Tr:=bB gv
 rw[e152]
 cases ho with
 | nil hv hx =>
  subst hv
  have At:xs=[]:=List.map_eq_nil_iff.1 hx
  subst At
  have sA:i=0:=by simpa using hi
  subst sA
  refine⟨.sl h.n 4 0 1,h.push (.arr 93 4 [aG x] none),?_,.arr h.n rfl cR aM dV,(Ext.refl dV wf).push,(iH.refl _ _).push⟩
  simp only[dW,Aj]
  rw[aJ _ _ _ _ (by simp)]
  simp[gv,iI,aY]
 | arr id hv hg Ee lS =>
  subst hv
  have bD:=bB hg
  have eG:jL≠id:=by intro e;subst e;rw[gv]at hg;simp at hg
  have hw:WF (h.set id .dead):=wf.set
  have gv':∀o l,({(h.set id .dead).push o with lim:=l}:aA).get jL=some (.arr vety 4 [aG x] (some c)):=fun o l=>by
   rw[tG,cN,if_neg (by rw[AG];omega),cA wf bD,if_neg eG];exact gv
  have g0:∀o l,({(h.set id .dead).push o with lim:=l}:aA).get h.n=some o:=fun o l=>by
   rw[tG];exact cR
  have lD:((xs.take i++x::xs.drop i).map aG).all (gG 200 h.n)=true:=by
   rw[List.all_eq_true]
   intro y hy
   obtain⟨z,_,rfl⟩:=List.mem_map.1 hy
   exact(Mc z).belowN (by decide)
  have hd:List.take (xs.length+1) (List.drop 0 ((xs.take i++x::xs.drop i).map aG))=(xs.take i++x::xs.drop i).map aG:=by
   rw[List.drop_zero,List.take_of_length_le (by simp only[List.length_map,List.length_append,List.length_take,List.length_cons,List.length_drop];omega)]
  have sc1:gP (ev D) Aj [.int .i64 i,.sl jL 4 0 1] id 4 0 (xs.map aG).length 93 (xs.map aG) h 1 none=some ((xs.take i++x::xs.drop i).map aG):=by
   obtain⟨H',k1,k2⟩:=a152 {(h.set id .dead).push (.arr 93 4 (xs.map aG++[.unk]) none)with lim:=h.n} h.n xs i x jL vety (some c) (g0 _ _) (gv' _ _) hi hl hw.push (Nat.le_refl _) (by omega)
   simp only[gP,List.length_map,List.replicate_one]
   rw[k1]
   have cJ:0+(xs.length+1)≤((xs.take i++x::xs.drop i).map aG).length:=by simp;omega
   simp only[nG,k2,true_and,Nat.le_refl]
   rw[hd,if_pos ⟨cJ,lD⟩]
  have sc2:gP (ev D) Aj [.int .i64 i,.sl jL 4 0 1] id 4 0 (xs.map aG).length 93 (xs.map aG) h 0 (some ((xs.map aG).length+0))=some ((xs.take i++x::xs.drop i).map aG):=by
   obtain⟨H',k1,k2⟩:=b152 {(h.set id .dead).push (.arr 93 4 (xs.map aG) (some xs.length))with lim:=h.n} h.n xs i x jL vety (some c) (g0 _ _) (gv' _ _) hi hl hw.push (Nat.le_refl _) (by omega)
   simp only[gP,List.length_map,List.replicate_zero,List.append_nil,Nat.add_zero]
   rw[k1]
   have cJ:0+(xs.length+1)≤((xs.take i++x::xs.drop i).map aG).length:=by simp;omega
   have hn:h.n≤({(h.set id .dead).push (.arr 93 4 (xs.map aG) (some xs.length))with lim:=h.n}:aA).n:=Nat.le_succ _
   simp only[nG,k2,true_and]
   rw[hd,if_pos ⟨hn,cJ,lD⟩]
  have mD:rQ ((xs.take i++x::xs.drop i).map aG) ((xs.take i++x::xs.drop i).map aG)=true:=by
   simp only[rQ,mB,Bool.true_and]
   exact mC fun y hy=>by
    obtain⟨z,_,rfl⟩:=List.mem_map.1 hy
    exact(Mc z).same (by decide)
  refine⟨.sl h.n 4 0 ((xs.take i++x::xs.drop i).map aG).length,(h.set id .dead).push (.arr 93 4 ((xs.take i++x::xs.drop i).map aG) none),?_,.arr h.n rfl (by exact cR) aM dV,((Ext.refl dV wf).set lS bD).push,((iH.refl _ _).set wf hg bD).push⟩
  simp only[dW,show Aj.mode=.split from rfl,hg,true_and,Ee,if_true]
  unfold kW
  have hk:(List.map wU [DV.int .i64 (i:Int),DV.sl jL 4 0 1]).foldl (·+·) 0=1:=rfl
  rw[hk,sc1]
  simp only[List.range_one,List.all_cons,List.all_nil,sc2,mD,Bool.and_self,if_true]
theorem q152{h:aA}{v:DV}{i jL:Nat}{A:Option (DV×aA)}(hA:fc D 152 [v,.int .i64 (i:Int),.sl jL 4 0 1] h=A)(lo:Nat)(xs:List bC)(x:bC){vety c:Nat}(ho:Own lo h v 93 4 (xs.map aG))(gv:h.get jL=some (.arr vety 4 [aG x] (some c)))(hi:i≤xs.length)(hl:xs.length≤1000000)(wf:WF h)(dV:lo≤h.n)(aM:h.lim≤h.n) :
  ∃ v' h',A=some (v',h')∧Own lo h' v' 93 4 ((xs.take i++x::xs.drop i).map aG)∧Ext lo h h'∧iH 93 h h':=by
 subst hA
 exact s152 lo h v xs i x jL vety c ho gv hi hl wf dV aM
theorem a153(H:aA)(n0:Nat)(xs:List ID)(i:Nat)(x:ID)(jL vety:Nat)(vcap:Option Nat)(g0:H.get n0=some (.arr 40 2 (xs.map eID++[.unk]) none))(gv:H.get jL=some (.arr vety 2 [eID x] vcap))(hi:i≤xs.length)(hl:xs.length≤1000000)(wf:WF H)(aM:H.lim≤n0)(eG:jL≠n0) :
  ∃ H',iV (ev D) Ai [.sl n0 2 0 xs.length,.int .i64 i,.sl jL 2 0 1] H=some (.sl n0 2 0 (xs.length+1),H')∧H'.get n0=some (.arr 40 2 ((xs.take i++x::xs.drop i).map eID) none):=by
 have bD:=bB g0
 have w1:IntKind.i64.wrap ((xs.length:Int)+1)=(xs.length:Int)+1:=aX (by omega) (by omega)
 rw[aJ _ _ _ _ (by simp[Ai])]
 by_cases rZ:i=xs.length
 ·subst rZ
  simp[Ai,g0,gv]
  rw[kS g0 (by simp) aM (by simp;omega) (by decide) (by simp)]
  simp[cA wf bD,dE]
 ·have Az:¬((i:Int)=xs.length):=by omega
  have w2:IntKind.i64.wrap ((i:Int)+1)=(i:Int)+1:=aX (by omega) (by omega)
  have lS:i+1≤xs.length+1:=by omega
  have OF:i+1+(xs.length-i)≤xs.length+1:=by omega
  have UC:i+(xs.length+1-i)≤xs.length+1:=by omega
  have n9:i≤xs.length+1:=by omega
  have hx:i<(xs.map eID).length:=by simp;omega
  have e1:=yT (xs.map eID) .unk i hx
  have e2:=Hr (xs.map eID) (eID x) i hx
  have WE:xs.length+1≤min (i+1) xs.length+(xs.length-i):=by omega
  have m9:i+1≤min (i+1) xs.length+(xs.length-i):=by omega
  simp only[List.length_map]at e1 e2
  simp[Ai,g0,gv,Az,hi,w1,w2,e1,e2,WE,m9,lS,OF,UC,n9,e190,eD,eG,aM,bD,cA wf,cA wf.set]
  have e3:List.take (xs.length+1-i) [eID x]=[eID x]:=List.take_of_length_le (by simp;omega)
  rw[e3,e2]
theorem b153(H:aA)(n0:Nat)(xs:List ID)(i:Nat)(x:ID)(jL vety:Nat)(vcap:Option Nat)(g0:H.get n0=some (.arr 40 2 (xs.map eID) (some xs.length)))(gv:H.get jL=some (.arr vety 2 [eID x] vcap))(hi:i≤xs.length)(hl:xs.length≤1000000)(wf:WF H)(aM:H.lim≤n0)(eG:jL≠n0) :
  ∃ H',iV (ev D) Ai [.sl n0 2 0 xs.length,.int .i64 i,.sl jL 2 0 1] H=some (.sl H.n 2 0 (xs.length+1),H')∧H'.get H.n=some (.arr 40 2 ((xs.take i++x::xs.drop i).map eID) none):=by
 have bD:=bB g0
 have Tr:=bB gv
 have w1:IntKind.i64.wrap ((xs.length:Int)+1)=(xs.length:Int)+1:=aX (by omega) (by omega)
 rw[aJ _ _ _ _ (by simp[Ai])]
 by_cases rZ:i=xs.length
 ·subst rZ
  simp[Ai,g0,gv]
  rw[hZ g0 (by simp) (by simp) (by simp;omega) (by decide) (by simp)]
  simp
  rw[List.take_of_length_le (by simp)]
 ·have Az:¬((i:Int)=xs.length):=by omega
  have w2:IntKind.i64.wrap ((i:Int)+1)=(i:Int)+1:=aX (by omega) (by omega)
  have w3:IntKind.i64.wrap ((xs.length:Int)+1-i)=((xs.length+1-i:Nat):Int):=by rw[aX (by omega) (by omega)];omega
  have hx:i<(xs.map eID).length:=by simp;omega
  have hq:(xs.length:Int)<(xs.length:Int)+1:=by omega
  have Ec:H.lim≤H.n:=by omega
  have hz:((xs.length+1-i:Nat):Int)≤140737488355328:=by omega
  have e1:=fun z=>Cv (xs.map eID) z (eID x) i hx
  have e2:=fun z=>Cu (xs.map eID) z (eID x) i hx
  have e3:i+(xs.length+1-i)=xs.length+1:=by omega
  have e4:i+(xs.length-i+1)=xs.length+1:=by omega
  have e5:i+1≤xs.length+1:=by omega
  have e6:i+1+(xs.length-i)≤xs.length+1:=by omega
  have e7:i≤xs.length+1:=by omega
  have e8:List.take (xs.length+1-i) [eID x]=[eID x]:=List.take_of_length_le (by simp;omega)
  have e9:List.take (xs.length-i) (List.drop i (List.map eID xs))=List.drop i (List.map eID xs):=List.take_of_length_le (by simp)
  simp only[List.length_map]at e1 e2
  simp[Ai,g0,gv,Az,hi,w1,w2,w3,hq,hz]
  rw[hZ g0 (by simp;omega) (by simp;omega) (by simp;omega) (by decide) (by simp;omega)]
  simp[g0,gv,w2,hi,bD,Tr,aM,Ec,e3,e4,e5,e6,e7,e1,e2,e8,e9,Nat.ne_of_lt bD,Nat.ne_of_lt Tr,Nat.min_eq_left hi]
theorem s153(lo:Nat)(h:aA)(v:DV)(xs:List ID)(i:Nat)(x:ID)(jL vety c:Nat)(ho:Own lo h v 40 2 (xs.map eID))(gv:h.get jL=some (.arr vety 2 [eID x] (some c)))(hi:i≤xs.length)(hl:xs.length≤1000000)(wf:WF h)(dV:lo≤h.n)(aM:h.lim≤h.n) :
  ∃ v' h',fc D 153 [v,.int .i64 i,.sl jL 2 0 1] h=some (v',h')∧Own lo h' v' 40 2 ((xs.take i++x::xs.drop i).map eID)∧Ext lo h h'∧iH 40 h h':=by
 have Tr:=bB gv
 rw[e153]
 cases ho with
 | nil hv hx =>
  subst hv
  have At:xs=[]:=List.map_eq_nil_iff.1 hx
  subst At
  have sA:i=0:=by simpa using hi
  subst sA
  refine⟨.sl h.n 2 0 1,h.push (.arr 40 2 [eID x] none),?_,.arr h.n rfl cR aM dV,(Ext.refl dV wf).push,(iH.refl _ _).push⟩
  simp only[dW,Ai]
  rw[aJ _ _ _ _ (by simp)]
  simp[gv,iI,aY]
 | arr id hv hg Ee lS =>
  subst hv
  have bD:=bB hg
  have eG:jL≠id:=by intro e;subst e;rw[gv]at hg;simp at hg
  have hw:WF (h.set id .dead):=wf.set
  have gv':∀o l,({(h.set id .dead).push o with lim:=l}:aA).get jL=some (.arr vety 2 [eID x] (some c)):=fun o l=>by
   rw[tG,cN,if_neg (by rw[AG];omega),cA wf bD,if_neg eG];exact gv
  have g0:∀o l,({(h.set id .dead).push o with lim:=l}:aA).get h.n=some o:=fun o l=>by
   rw[tG];exact cR
  have lD:((xs.take i++x::xs.drop i).map eID).all (gG 200 h.n)=true:=by
   rw[List.all_eq_true]
   intro y hy
   obtain⟨z,_,rfl⟩:=List.mem_map.1 hy
   exact(PC z).belowN (by decide)
  have hd:List.take (xs.length+1) (List.drop 0 ((xs.take i++x::xs.drop i).map eID))=(xs.take i++x::xs.drop i).map eID:=by
   rw[List.drop_zero,List.take_of_length_le (by simp only[List.length_map,List.length_append,List.length_take,List.length_cons,List.length_drop];omega)]
  have sc1:gP (ev D) Ai [.int .i64 i,.sl jL 2 0 1] id 2 0 (xs.map eID).length 40 (xs.map eID) h 1 none=some ((xs.take i++x::xs.drop i).map eID):=by
   obtain⟨H',k1,k2⟩:=a153 {(h.set id .dead).push (.arr 40 2 (xs.map eID++[.unk]) none)with lim:=h.n} h.n xs i x jL vety (some c) (g0 _ _) (gv' _ _) hi hl hw.push (Nat.le_refl _) (by omega)
   simp only[gP,List.length_map,List.replicate_one]
   rw[k1]
   have cJ:0+(xs.length+1)≤((xs.take i++x::xs.drop i).map eID).length:=by simp;omega
   simp only[nG,k2,true_and,Nat.le_refl]
   rw[hd,if_pos ⟨cJ,lD⟩]
  have sc2:gP (ev D) Ai [.int .i64 i,.sl jL 2 0 1] id 2 0 (xs.map eID).length 40 (xs.map eID) h 0 (some ((xs.map eID).length+0))=some ((xs.take i++x::xs.drop i).map eID):=by
   obtain⟨H',k1,k2⟩:=b153 {(h.set id .dead).push (.arr 40 2 (xs.map eID) (some xs.length))with lim:=h.n} h.n xs i x jL vety (some c) (g0 _ _) (gv' _ _) hi hl hw.push (Nat.le_refl _) (by omega)
   simp only[gP,List.length_map,List.replicate_zero,List.append_nil,Nat.add_zero]
   rw[k1]
   have cJ:0+(xs.length+1)≤((xs.take i++x::xs.drop i).map eID).length:=by simp;omega
   have hn:h.n≤({(h.set id .dead).push (.arr 40 2 (xs.map eID) (some xs.length))with lim:=h.n}:aA).n:=Nat.le_succ _
   simp only[nG,k2,true_and]
   rw[hd,if_pos ⟨hn,cJ,lD⟩]
  have mD:rQ ((xs.take i++x::xs.drop i).map eID) ((xs.take i++x::xs.drop i).map eID)=true:=by
   simp only[rQ,mB,Bool.true_and]
   exact mC fun y hy=>by
    obtain⟨z,_,rfl⟩:=List.mem_map.1 hy
    exact(PC z).same (by decide)
  refine⟨.sl h.n 2 0 ((xs.take i++x::xs.drop i).map eID).length,(h.set id .dead).push (.arr 40 2 ((xs.take i++x::xs.drop i).map eID) none),?_,.arr h.n rfl (by exact cR) aM dV,((Ext.refl dV wf).set lS bD).push,((iH.refl _ _).set wf hg bD).push⟩
  simp only[dW,show Ai.mode=.split from rfl,hg,true_and,Ee,if_true]
  unfold kW
  have hk:(List.map wU [DV.int .i64 (i:Int),DV.sl jL 2 0 1]).foldl (·+·) 0=1:=rfl
  rw[hk,sc1]
  simp only[List.range_one,List.all_cons,List.all_nil,sc2,mD,Bool.and_self,if_true]
theorem q153{h:aA}{v:DV}{i jL:Nat}{A:Option (DV×aA)}(hA:fc D 153 [v,.int .i64 (i:Int),.sl jL 2 0 1] h=A)(lo:Nat)(xs:List ID)(x:ID){vety c:Nat}(ho:Own lo h v 40 2 (xs.map eID))(gv:h.get jL=some (.arr vety 2 [eID x] (some c)))(hi:i≤xs.length)(hl:xs.length≤1000000)(wf:WF h)(dV:lo≤h.n)(aM:h.lim≤h.n) :
  ∃ v' h',A=some (v',h')∧Own lo h' v' 40 2 ((xs.take i++x::xs.drop i).map eID)∧Ext lo h h'∧iH 40 h h':=by
 subst hA
 exact s153 lo h v xs i x jL vety c ho gv hi hl wf dV aM
theorem a157(H:aA)(n0:Nat)(xs:List aV)(i:Nat)(x:aV)(jL vety:Nat)(vcap:Option Nat)(g0:H.get n0=some (.arr 114 7 (xs.map aD++[.unk]) none))(gv:H.get jL=some (.arr vety 7 [aD x] vcap))(hi:i≤xs.length)(hl:xs.length≤1000000)(wf:WF H)(aM:H.lim≤n0)(eG:jL≠n0) :
  ∃ H',iV (ev D) Ah [.sl n0 7 0 xs.length,.int .i64 i,.sl jL 7 0 1] H=some (.sl n0 7 0 (xs.length+1),H')∧H'.get n0=some (.arr 114 7 ((xs.take i++x::xs.drop i).map aD) none):=by
 have bD:=bB g0
 have w1:IntKind.i64.wrap ((xs.length:Int)+1)=(xs.length:Int)+1:=aX (by omega) (by omega)
 rw[aJ _ _ _ _ (by simp[Ah])]
 by_cases rZ:i=xs.length
 ·subst rZ
  simp[Ah,g0,gv]
  rw[kS g0 (by simp) aM (by simp;omega) (by decide) (by simp)]
  simp[cA wf bD,dE]
 ·have Az:¬((i:Int)=xs.length):=by omega
  have w2:IntKind.i64.wrap ((i:Int)+1)=(i:Int)+1:=aX (by omega) (by omega)
  have lS:i+1≤xs.length+1:=by omega
  have OF:i+1+(xs.length-i)≤xs.length+1:=by omega
  have UC:i+(xs.length+1-i)≤xs.length+1:=by omega
  have n9:i≤xs.length+1:=by omega
  have hx:i<(xs.map aD).length:=by simp;omega
  have e1:=yT (xs.map aD) .unk i hx
  have e2:=Hr (xs.map aD) (aD x) i hx
  have WE:xs.length+1≤min (i+1) xs.length+(xs.length-i):=by omega
  have m9:i+1≤min (i+1) xs.length+(xs.length-i):=by omega
  simp only[List.length_map]at e1 e2
  simp[Ah,g0,gv,Az,hi,w1,w2,e1,e2,WE,m9,lS,OF,UC,n9,e196,eD,eG,aM,bD,cA wf,cA wf.set]
  have e3:List.take (xs.length+1-i) [aD x]=[aD x]:=List.take_of_length_le (by simp;omega)
  rw[e3,e2]
theorem b157(H:aA)(n0:Nat)(xs:List aV)(i:Nat)(x:aV)(jL vety:Nat)(vcap:Option Nat)(g0:H.get n0=some (.arr 114 7 (xs.map aD) (some xs.length)))(gv:H.get jL=some (.arr vety 7 [aD x] vcap))(hi:i≤xs.length)(hl:xs.length≤1000000)(wf:WF H)(aM:H.lim≤n0)(eG:jL≠n0) :
  ∃ H',iV (ev D) Ah [.sl n0 7 0 xs.length,.int .i64 i,.sl jL 7 0 1] H=some (.sl H.n 7 0 (xs.length+1),H')∧H'.get H.n=some (.arr 114 7 ((xs.take i++x::xs.drop i).map aD) none):=by
 have bD:=bB g0
 have Tr:=bB gv
 have w1:IntKind.i64.wrap ((xs.length:Int)+1)=(xs.length:Int)+1:=aX (by omega) (by omega)
 rw[aJ _ _ _ _ (by simp[Ah])]
 by_cases rZ:i=xs.length
 ·subst rZ
  simp[Ah,g0,gv]
  rw[hZ g0 (by simp) (by simp) (by simp;omega) (by decide) (by simp)]
  simp
  rw[List.take_of_length_le (by simp)]
 ·have Az:¬((i:Int)=xs.length):=by omega
  have w2:IntKind.i64.wrap ((i:Int)+1)=(i:Int)+1:=aX (by omega) (by omega)
  have w3:IntKind.i64.wrap ((xs.length:Int)+1-i)=((xs.length+1-i:Nat):Int):=by rw[aX (by omega) (by omega)];omega
  have hx:i<(xs.map aD).length:=by simp;omega
  have hq:(xs.length:Int)<(xs.length:Int)+1:=by omega
  have Ec:H.lim≤H.n:=by omega
  have hz:((xs.length+1-i:Nat):Int)≤140737488355328:=by omega
  have e1:=fun z=>Cv (xs.map aD) z (aD x) i hx
  have e2:=fun z=>Cu (xs.map aD) z (aD x) i hx
  have e3:i+(xs.length+1-i)=xs.length+1:=by omega
  have e4:i+(xs.length-i+1)=xs.length+1:=by omega
  have e5:i+1≤xs.length+1:=by omega
  have e6:i+1+(xs.length-i)≤xs.length+1:=by omega
  have e7:i≤xs.length+1:=by omega
  have e8:List.take (xs.length+1-i) [aD x]=[aD x]:=List.take_of_length_le (by simp;omega)
  have e9:List.take (xs.length-i) (List.drop i (List.map aD xs))=List.drop i (List.map aD xs):=List.take_of_length_le (by simp)
  simp only[List.length_map]at e1 e2
  simp[Ah,g0,gv,Az,hi,w1,w2,w3,hq,hz]
  rw[hZ g0 (by simp;omega) (by simp;omega) (by simp;omega) (by decide) (by simp;omega)]
  simp[g0,gv,w2,hi,bD,Tr,aM,Ec,e3,e4,e5,e6,e7,e1,e2,e8,e9,Nat.ne_of_lt bD,Nat.ne_of_lt Tr,Nat.min_eq_left hi]
theorem s157(lo:Nat)(h:aA)(v:DV)(xs:List aV)(i:Nat)(x:aV)(jL vety c:Nat)(ho:Own lo h v 114 7 (xs.map aD))(gv:h.get jL=some (.arr vety 7 [aD x] (some c)))(hi:i≤xs.length)(hl:xs.length≤1000000)(wf:WF h)(dV:lo≤h.n)(aM:h.lim≤h.n) :
  ∃ v' h',fc D 157 [v,.int .i64 i,.sl jL 7 0 1] h=some (v',h')∧Own lo h' v' 114 7 ((xs.take i++x::xs.drop i).map aD)∧Ext lo h h'∧iH 114 h h':=by
 have Tr:=bB gv
 rw[e157]
 cases ho with
 | nil hv hx =>
  subst hv
  have At:xs=[]:=List.map_eq_nil_iff.1 hx
  subst At
  have sA:i=0:=by simpa using hi
  subst sA
  refine⟨.sl h.n 7 0 1,h.push (.arr 114 7 [aD x] none),?_,.arr h.n rfl cR aM dV,(Ext.refl dV wf).push,(iH.refl _ _).push⟩
  simp only[dW,Ah]
  rw[aJ _ _ _ _ (by simp)]
  simp[gv,iI,aY]
 | arr id hv hg Ee lS =>
  subst hv
  have bD:=bB hg
  have eG:jL≠id:=by intro e;subst e;rw[gv]at hg;simp at hg
  have hw:WF (h.set id .dead):=wf.set
  have gv':∀o l,({(h.set id .dead).push o with lim:=l}:aA).get jL=some (.arr vety 7 [aD x] (some c)):=fun o l=>by
   rw[tG,cN,if_neg (by rw[AG];omega),cA wf bD,if_neg eG];exact gv
  have g0:∀o l,({(h.set id .dead).push o with lim:=l}:aA).get h.n=some o:=fun o l=>by
   rw[tG];exact cR
  have lD:((xs.take i++x::xs.drop i).map aD).all (gG 200 h.n)=true:=by
   rw[List.all_eq_true]
   intro y hy
   obtain⟨z,_,rfl⟩:=List.mem_map.1 hy
   exact(Pn z).belowN (by decide)
  have hd:List.take (xs.length+1) (List.drop 0 ((xs.take i++x::xs.drop i).map aD))=(xs.take i++x::xs.drop i).map aD:=by
   rw[List.drop_zero,List.take_of_length_le (by simp only[List.length_map,List.length_append,List.length_take,List.length_cons,List.length_drop];omega)]
  have sc1:gP (ev D) Ah [.int .i64 i,.sl jL 7 0 1] id 7 0 (xs.map aD).length 114 (xs.map aD) h 1 none=some ((xs.take i++x::xs.drop i).map aD):=by
   obtain⟨H',k1,k2⟩:=a157 {(h.set id .dead).push (.arr 114 7 (xs.map aD++[.unk]) none)with lim:=h.n} h.n xs i x jL vety (some c) (g0 _ _) (gv' _ _) hi hl hw.push (Nat.le_refl _) (by omega)
   simp only[gP,List.length_map,List.replicate_one]
   rw[k1]
   have cJ:0+(xs.length+1)≤((xs.take i++x::xs.drop i).map aD).length:=by simp;omega
   simp only[nG,k2,true_and,Nat.le_refl]
   rw[hd,if_pos ⟨cJ,lD⟩]
  have sc2:gP (ev D) Ah [.int .i64 i,.sl jL 7 0 1] id 7 0 (xs.map aD).length 114 (xs.map aD) h 0 (some ((xs.map aD).length+0))=some ((xs.take i++x::xs.drop i).map aD):=by
   obtain⟨H',k1,k2⟩:=b157 {(h.set id .dead).push (.arr 114 7 (xs.map aD) (some xs.length))with lim:=h.n} h.n xs i x jL vety (some c) (g0 _ _) (gv' _ _) hi hl hw.push (Nat.le_refl _) (by omega)
   simp only[gP,List.length_map,List.replicate_zero,List.append_nil,Nat.add_zero]
   rw[k1]
   have cJ:0+(xs.length+1)≤((xs.take i++x::xs.drop i).map aD).length:=by simp;omega
   have hn:h.n≤({(h.set id .dead).push (.arr 114 7 (xs.map aD) (some xs.length))with lim:=h.n}:aA).n:=Nat.le_succ _
   simp only[nG,k2,true_and]
   rw[hd,if_pos ⟨hn,cJ,lD⟩]
  have mD:rQ ((xs.take i++x::xs.drop i).map aD) ((xs.take i++x::xs.drop i).map aD)=true:=by
   simp only[rQ,mB,Bool.true_and]
   exact mC fun y hy=>by
    obtain⟨z,_,rfl⟩:=List.mem_map.1 hy
    exact(Pn z).same (by decide)
  refine⟨.sl h.n 7 0 ((xs.take i++x::xs.drop i).map aD).length,(h.set id .dead).push (.arr 114 7 ((xs.take i++x::xs.drop i).map aD) none),?_,.arr h.n rfl (by exact cR) aM dV,((Ext.refl dV wf).set lS bD).push,((iH.refl _ _).set wf hg bD).push⟩
  simp only[dW,show Ah.mode=.split from rfl,hg,true_and,Ee,if_true]
  unfold kW
  have hk:(List.map wU [DV.int .i64 (i:Int),DV.sl jL 7 0 1]).foldl (·+·) 0=1:=rfl
  rw[hk,sc1]
  simp only[List.range_one,List.all_cons,List.all_nil,sc2,mD,Bool.and_self,if_true]
theorem SS{h:aA}{v:DV}{i jL:Nat}{A:Option (DV×aA)}(hA:fc D 157 [v,.int .i64 (i:Int),.sl jL 7 0 1] h=A)(lo:Nat)(xs:List aV)(x:aV){vety c:Nat}(ho:Own lo h v 114 7 (xs.map aD))(gv:h.get jL=some (.arr vety 7 [aD x] (some c)))(hi:i≤xs.length)(hl:xs.length≤1000000)(wf:WF h)(dV:lo≤h.n)(aM:h.lim≤h.n) :
  ∃ v' h',A=some (v',h')∧Own lo h' v' 114 7 ((xs.take i++x::xs.drop i).map aD)∧Ext lo h h'∧iH 114 h h':=by
 subst hA
 exact s157 lo h v xs i x jL vety c ho gv hi hl wf dV aM
theorem a222(H:aA)(n0:Nat)(xs:List fB)(i:Nat)(x:fB)(jL vety:Nat)(vcap:Option Nat)(g0:H.get n0=some (.arr 96 5 (xs.map aO++[.unk]) none))(gv:H.get jL=some (.arr vety 5 [aO x] vcap))(hi:i≤xs.length)(hl:xs.length≤1000000)(wf:WF H)(aM:H.lim≤n0)(eG:jL≠n0) :
  ∃ H',iV (ev D) Ad [.sl n0 5 0 xs.length,.int .i64 i,.sl jL 5 0 1] H=some (.sl n0 5 0 (xs.length+1),H')∧H'.get n0=some (.arr 96 5 ((xs.take i++x::xs.drop i).map aO) none):=by
 have bD:=bB g0
 have w1:IntKind.i64.wrap ((xs.length:Int)+1)=(xs.length:Int)+1:=aX (by omega) (by omega)
 rw[aJ _ _ _ _ (by simp[Ad])]
 by_cases rZ:i=xs.length
 ·subst rZ
  simp[Ad,g0,gv]
  rw[kS g0 (by simp) aM (by simp;omega) (by decide) (by simp)]
  simp[cA wf bD,dE]
 ·have Az:¬((i:Int)=xs.length):=by omega
  have w2:IntKind.i64.wrap ((i:Int)+1)=(i:Int)+1:=aX (by omega) (by omega)
  have lS:i+1≤xs.length+1:=by omega
  have OF:i+1+(xs.length-i)≤xs.length+1:=by omega
  have UC:i+(xs.length+1-i)≤xs.length+1:=by omega
  have n9:i≤xs.length+1:=by omega
  have hx:i<(xs.map aO).length:=by simp;omega
  have e1:=yT (xs.map aO) .unk i hx
  have e2:=Hr (xs.map aO) (aO x) i hx
  have WE:xs.length+1≤min (i+1) xs.length+(xs.length-i):=by omega
  have m9:i+1≤min (i+1) xs.length+(xs.length-i):=by omega
  simp only[List.length_map]at e1 e2
  simp[Ad,g0,gv,Az,hi,w1,w2,e1,e2,WE,m9,lS,OF,UC,n9,e234,eD,eG,aM,bD,cA wf,cA wf.set]
  have e3:List.take (xs.length+1-i) [aO x]=[aO x]:=List.take_of_length_le (by simp;omega)
  rw[e3,e2]
theorem b222(H:aA)(n0:Nat)(xs:List fB)(i:Nat)(x:fB)(jL vety:Nat)(vcap:Option Nat)(g0:H.get n0=some (.arr 96 5 (xs.map aO) (some xs.length)))(gv:H.get jL=some (.arr vety 5 [aO x] vcap))(hi:i≤xs.length)(hl:xs.length≤1000000)(wf:WF H)(aM:H.lim≤n0)(eG:jL≠n0) :
  ∃ H',iV (ev D) Ad [.sl n0 5 0 xs.length,.int .i64 i,.sl jL 5 0 1] H=some (.sl H.n 5 0 (xs.length+1),H')∧H'.get H.n=some (.arr 96 5 ((xs.take i++x::xs.drop i).map aO) none):=by
 have bD:=bB g0
 have Tr:=bB gv
 have w1:IntKind.i64.wrap ((xs.length:Int)+1)=(xs.length:Int)+1:=aX (by omega) (by omega)
 rw[aJ _ _ _ _ (by simp[Ad])]
 by_cases rZ:i=xs.length
 ·subst rZ
  simp[Ad,g0,gv]
  rw[hZ g0 (by simp) (by simp) (by simp;omega) (by decide) (by simp)]
  simp
  rw[List.take_of_length_le (by simp)]
 ·have Az:¬((i:Int)=xs.length):=by omega
  have w2:IntKind.i64.wrap ((i:Int)+1)=(i:Int)+1:=aX (by omega) (by omega)
  have w3:IntKind.i64.wrap ((xs.length:Int)+1-i)=((xs.length+1-i:Nat):Int):=by rw[aX (by omega) (by omega)];omega
  have hx:i<(xs.map aO).length:=by simp;omega
  have hq:(xs.length:Int)<(xs.length:Int)+1:=by omega
  have Ec:H.lim≤H.n:=by omega
  have hz:((xs.length+1-i:Nat):Int)≤140737488355328:=by omega
  have e1:=fun z=>Cv (xs.map aO) z (aO x) i hx
  have e2:=fun z=>Cu (xs.map aO) z (aO x) i hx
  have e3:i+(xs.length+1-i)=xs.length+1:=by omega
  have e4:i+(xs.length-i+1)=xs.length+1:=by omega
  have e5:i+1≤xs.length+1:=by omega
  have e6:i+1+(xs.length-i)≤xs.length+1:=by omega
  have e7:i≤xs.length+1:=by omega
  have e8:List.take (xs.length+1-i) [aO x]=[aO x]:=List.take_of_length_le (by simp;omega)
  have e9:List.take (xs.length-i) (List.drop i (List.map aO xs))=List.drop i (List.map aO xs):=List.take_of_length_le (by simp)
  simp only[List.length_map]at e1 e2
  simp[Ad,g0,gv,Az,hi,w1,w2,w3,hq,hz]
  rw[hZ g0 (by simp;omega) (by simp;omega) (by simp;omega) (by decide) (by simp;omega)]
  simp[g0,gv,w2,hi,bD,Tr,aM,Ec,e3,e4,e5,e6,e7,e1,e2,e8,e9,Nat.ne_of_lt bD,Nat.ne_of_lt Tr,Nat.min_eq_left hi]
theorem s222(lo:Nat)(h:aA)(v:DV)(xs:List fB)(i:Nat)(x:fB)(jL vety c:Nat)(ho:Own lo h v 96 5 (xs.map aO))(gv:h.get jL=some (.arr vety 5 [aO x] (some c)))(hi:i≤xs.length)(hl:xs.length≤1000000)(wf:WF h)(dV:lo≤h.n)(aM:h.lim≤h.n) :
  ∃ v' h',fc D 222 [v,.int .i64 i,.sl jL 5 0 1] h=some (v',h')∧Own lo h' v' 96 5 ((xs.take i++x::xs.drop i).map aO)∧Ext lo h h'∧iH 96 h h':=by
 have Tr:=bB gv
 rw[e222]
 cases ho with
 | nil hv hx =>
  subst hv
  have At:xs=[]:=List.map_eq_nil_iff.1 hx
  subst At
  have sA:i=0:=by simpa using hi
  subst sA
  refine⟨.sl h.n 5 0 1,h.push (.arr 96 5 [aO x] none),?_,.arr h.n rfl cR aM dV,(Ext.refl dV wf).push,(iH.refl _ _).push⟩
  simp only[dW,Ad]
  rw[aJ _ _ _ _ (by simp)]
  simp[gv,iI,aY]
 | arr id hv hg Ee lS =>
  subst hv
  have bD:=bB hg
  have eG:jL≠id:=by intro e;subst e;rw[gv]at hg;simp at hg
  have hw:WF (h.set id .dead):=wf.set
  have gv':∀o l,({(h.set id .dead).push o with lim:=l}:aA).get jL=some (.arr vety 5 [aO x] (some c)):=fun o l=>by
   rw[tG,cN,if_neg (by rw[AG];omega),cA wf bD,if_neg eG];exact gv
  have g0:∀o l,({(h.set id .dead).push o with lim:=l}:aA).get h.n=some o:=fun o l=>by
   rw[tG];exact cR
  have lD:((xs.take i++x::xs.drop i).map aO).all (gG 200 h.n)=true:=by
   rw[List.all_eq_true]
   intro y hy
   obtain⟨z,_,rfl⟩:=List.mem_map.1 hy
   exact(Mb z).belowN (by decide)
  have hd:List.take (xs.length+1) (List.drop 0 ((xs.take i++x::xs.drop i).map aO))=(xs.take i++x::xs.drop i).map aO:=by
   rw[List.drop_zero,List.take_of_length_le (by simp only[List.length_map,List.length_append,List.length_take,List.length_cons,List.length_drop];omega)]
  have sc1:gP (ev D) Ad [.int .i64 i,.sl jL 5 0 1] id 5 0 (xs.map aO).length 96 (xs.map aO) h 1 none=some ((xs.take i++x::xs.drop i).map aO):=by
   obtain⟨H',k1,k2⟩:=a222 {(h.set id .dead).push (.arr 96 5 (xs.map aO++[.unk]) none)with lim:=h.n} h.n xs i x jL vety (some c) (g0 _ _) (gv' _ _) hi hl hw.push (Nat.le_refl _) (by omega)
   simp only[gP,List.length_map,List.replicate_one]
   rw[k1]
   have cJ:0+(xs.length+1)≤((xs.take i++x::xs.drop i).map aO).length:=by simp;omega
   simp only[nG,k2,true_and,Nat.le_refl]
   rw[hd,if_pos ⟨cJ,lD⟩]
  have sc2:gP (ev D) Ad [.int .i64 i,.sl jL 5 0 1] id 5 0 (xs.map aO).length 96 (xs.map aO) h 0 (some ((xs.map aO).length+0))=some ((xs.take i++x::xs.drop i).map aO):=by
   obtain⟨H',k1,k2⟩:=b222 {(h.set id .dead).push (.arr 96 5 (xs.map aO) (some xs.length))with lim:=h.n} h.n xs i x jL vety (some c) (g0 _ _) (gv' _ _) hi hl hw.push (Nat.le_refl _) (by omega)
   simp only[gP,List.length_map,List.replicate_zero,List.append_nil,Nat.add_zero]
   rw[k1]
   have cJ:0+(xs.length+1)≤((xs.take i++x::xs.drop i).map aO).length:=by simp;omega
   have hn:h.n≤({(h.set id .dead).push (.arr 96 5 (xs.map aO) (some xs.length))with lim:=h.n}:aA).n:=Nat.le_succ _
   simp only[nG,k2,true_and]
   rw[hd,if_pos ⟨hn,cJ,lD⟩]
  have mD:rQ ((xs.take i++x::xs.drop i).map aO) ((xs.take i++x::xs.drop i).map aO)=true:=by
   simp only[rQ,mB,Bool.true_and]
   exact mC fun y hy=>by
    obtain⟨z,_,rfl⟩:=List.mem_map.1 hy
    exact(Mb z).same (by decide)
  refine⟨.sl h.n 5 0 ((xs.take i++x::xs.drop i).map aO).length,(h.set id .dead).push (.arr 96 5 ((xs.take i++x::xs.drop i).map aO) none),?_,.arr h.n rfl (by exact cR) aM dV,((Ext.refl dV wf).set lS bD).push,((iH.refl _ _).set wf hg bD).push⟩
  simp only[dW,show Ad.mode=.split from rfl,hg,true_and,Ee,if_true]
  unfold kW
  have hk:(List.map wU [DV.int .i64 (i:Int),DV.sl jL 5 0 1]).foldl (·+·) 0=1:=rfl
  rw[hk,sc1]
  simp only[List.range_one,List.all_cons,List.all_nil,sc2,mD,Bool.and_self,if_true]
theorem q222{h:aA}{v:DV}{i jL:Nat}{A:Option (DV×aA)}(hA:fc D 222 [v,.int .i64 (i:Int),.sl jL 5 0 1] h=A)(lo:Nat)(xs:List fB)(x:fB){vety c:Nat}(ho:Own lo h v 96 5 (xs.map aO))(gv:h.get jL=some (.arr vety 5 [aO x] (some c)))(hi:i≤xs.length)(hl:xs.length≤1000000)(wf:WF h)(dV:lo≤h.n)(aM:h.lim≤h.n) :
  ∃ v' h',A=some (v',h')∧Own lo h' v' 96 5 ((xs.take i++x::xs.drop i).map aO)∧Ext lo h h'∧iH 96 h h':=by
 subst hA
 exact s222 lo h v xs i x jL vety c ho gv hi hl wf dV aM
end Go.Dm.Tc
namespace Go.Dm.Tc
theorem uI{x y:ID}(h:x≠y):(x.aS == y.aS && x.seq == y.seq)=false:=by
 obtain⟨a,b⟩:=x
 obtain⟨c,d⟩:=y
 simp only[ne_eq,ID.mk.injEq,not_and]at h
 by_cases h1:a=c
 ·simp[h1,h h1]
 ·simp[h1]
theorem l41(t u:Bool)(xs ys:List fB)(hl:xs.length≤1000000)(qV:xs.length=ys.length) :
  ∀(rest cU:List fB) (i:Nat) (f:cY) (h:aA),xs.drop i=rest→ys.drop i=cU→f 0=eL t 5 aO xs→f 1=eL u 5 aO ys→f 5=.int .i64 i →
  dC (fin [.t 4] (run D 26 [.block 0,.seq KF] (.loop Z0) f h))=some (.bool (decide (rest=cU))):=by
 intro rest
 induction rest with
 | nil =>
  intro cU i f h hd rE h0 h1 h5
  have hi:=bR hd
  have:¬(i<xs.length):=by omega
  have hr:cU=[]:=by rw[←rE];exact List.drop_eq_nil_of_le (by omega)
  subst hr
  rw[aC Z0.eq_1]
  simp[KF,h0,h5,this]
 | cons e rest ih =>
  intro cU i f h hd rE h0 h1 h5
  obtain⟨hi,he,fI⟩:=cB hd
  cases cU with
  | nil=>have:=bR rE;omega
  | cons e' cU =>
   obtain⟨kE,qQ,xP⟩:=cB rE
   rw[aC Z0.eq_1]
   by_cases hp:e=e'
   ·subst hp
    simp[h0,h1,h5,hi,kE,he,qQ,aO]
    rw[aX (by omega) (by omega)]
    refine(ih cU (i+1) _ h fI xP ?_ ?_ ?_).trans ?_<;>simp[h0,h1,aO]
   ·have vB:=hp
    first
     | rw[ID.mk.injEq]at vB
     | (cases e;cases e';simp only[ID.mk.injEq,fB.mk.injEq,not_and]at vB)
     | (cases e;cases e';rename_i v _ v';cases v;cases v';simp only[Att.mk.injEq,Val.mk.injEq,not_and]at vB)
     | skip
    simp[h0,h1,h5,hi,kE,he,qQ,aO,hp,vB,-not_and]
    try (split<;>simp_all)
theorem s41(t u:Bool)(xs ys:List fB)(hl:xs.length≤1000000) :
  pcF D t41 [eL t 5 aO xs,eL u 5 aO ys]=some (.bool (decide (xs=ys))):=by
 unfold pcF
 rw[aJ _ _ _ _ (by simp[t41])]
 by_cases qV:xs.length=ys.length
 ·simp[t41,qV]
  refine(l41 t u xs ys hl qV xs ys 0 _ _ rfl rfl ?_ ?_ ?_).trans ?_<;>simp[qV]
 ·have:xs≠ys:=fun h=>qV (by rw[h])
  have h2:¬((xs.length:Int)=ys.length):=by omega
  simp[t41,h2,this]
theorem l43(t u:Bool)(xs ys:List Att)(hl:xs.length≤1000000)(qV:xs.length=ys.length) :
  ∀(rest cU:List Att) (i:Nat) (f:cY) (h:aA),xs.drop i=rest→ys.drop i=cU→f 0=eL t 4 gK xs→f 1=eL u 4 gK ys→f 5=.int .i64 i →
  dC (fin [.t 4] (run D 26 [.block 0,.seq KE] (.loop Y9) f h))=some (.bool (decide (rest=cU))):=by
 intro rest
 induction rest with
 | nil =>
  intro cU i f h hd rE h0 h1 h5
  have hi:=bR hd
  have:¬(i<xs.length):=by omega
  have hr:cU=[]:=by rw[←rE];exact List.drop_eq_nil_of_le (by omega)
  subst hr
  rw[aC Y9.eq_1]
  simp[KE,h0,h5,this]
 | cons e rest ih =>
  intro cU i f h hd rE h0 h1 h5
  obtain⟨hi,he,fI⟩:=cB hd
  cases cU with
  | nil=>have:=bR rE;omega
  | cons e' cU =>
   obtain⟨kE,qQ,xP⟩:=cB rE
   rw[aC Y9.eq_1]
   by_cases hp:e=e'
   ·subst hp
    simp[h0,h1,h5,hi,kE,he,qQ,gK]
    rw[aX (by omega) (by omega)]
    refine(ih cU (i+1) _ h fI xP ?_ ?_ ?_).trans ?_<;>simp[h0,h1,gK]
   ·have vB:=hp
    first
     | rw[ID.mk.injEq]at vB
     | (cases e;cases e';simp only[ID.mk.injEq,fB.mk.injEq,not_and]at vB)
     | (cases e;cases e';rename_i v _ v';cases v;cases v';simp only[Att.mk.injEq,Val.mk.injEq,not_and]at vB)
     | skip
    simp[h0,h1,h5,hi,kE,he,qQ,gK,hp,vB,-not_and]
    try (split<;>simp_all)
theorem s43(t u:Bool)(xs ys:List Att)(hl:xs.length≤1000000) :
  pcF D t43 [eL t 4 gK xs,eL u 4 gK ys]=some (.bool (decide (xs=ys))):=by
 unfold pcF
 rw[aJ _ _ _ _ (by simp[t43])]
 by_cases qV:xs.length=ys.length
 ·simp[t43,qV]
  refine(l43 t u xs ys hl qV xs ys 0 _ _ rfl rfl ?_ ?_ ?_).trans ?_<;>simp[qV]
 ·have:xs≠ys:=fun h=>qV (by rw[h])
  have h2:¬((xs.length:Int)=ys.length):=by omega
  simp[t43,h2,this]
end Go.Dm.Tc
namespace Go.Dm.Tc
def lenOf:DV→Option Nat
 | .nsl=>some 0
 | .sl _ _ _ len=>some len
 | .isl _ _ xs=>some xs.length
 | _=>none
def yM(x lo hi mx:DV):Option DV :=
 match lenOf x with
 | some len=>match dQ (some mx) 0 len with
  | some m=>match dQ (some hi) 0 m with
   | some b=>match dQ (some lo) 0 b with
    | some _=>some .unk
    | none=>none
   | none=>none
  | none=>none
 | none=>none
def wD(h:aA)(sz:Nat)(z x:DV):Option (DV×aA) :=
 match x with
 | .nsl=>some (.tup [],h)
 | .isl _ _ []=>some (.tup [],h)
 | .sl id eQ off len=>if len=0 then some (.tup [],h)else match xZ h sz (.sl id eQ off len) (List.replicate len z)with|some (_,h')=>some (.tup [],h')|none=>none
 | _=>none
theorem yO(c:Nat→List DV→aA→Option (DV×aA))(h:aA)(env:Env)(x lo hi mx:Opd):cG c (.slice3 x lo hi mx) env h=dZ h (yM (x.eval env) (lo.eval env) (hi.eval env) (mx.eval env)):=by
 simp only[cG,aK,yM,Mm,Option.map_some]
 cases x.eval env<;>try rfl
 all_goals
  simp only[lenOf]
  generalize dQ (some (mx.eval env)) 0 _=A
  cases A with
  | none=>rfl
  | some m =>
   simp only
   cases dQ (some (hi.eval env)) 0 m with
   | none=>rfl
   | some b =>
    simp only
    cases dQ (some (lo.eval env)) 0 b with
    | none=>rfl
    | some a=>rfl
theorem uC(c:Nat→List DV→aA→Option (DV×aA))(h:aA)(env:Env)(sz:Nat)(z:DV)(x:Opd):cG c (.clear sz z x) env h=wD h sz z (x.eval env):=by
 simp only[cG,aK,wD]
 cases x.eval env<;>rfl
theorem Jk{id sz off len lo hi:Nat}(h1:lo≤hi)(h2:hi≤len):yM (.sl id sz off len) (.int .i64 (lo:Int)) (.int .i64 (hi:Int)) (.int .i64 (len:Int))=some .unk:=by
 simp only[yM,lenOf]
 rw[jP _ _ _ _ (Nat.le_refl _)]
 simp only
 rw[jP _ _ _ _ h2]
 simp only
 rw[jP _ _ _ _ h1]
theorem rN{h:aA}{id ety sz off len:Nat}{xs:List DV}{cap:Option Nat}{z:DV}(hg:h.get id=some (.arr ety sz xs cap))(hl:off+len≤xs.length)(aM:h.lim≤id)(h0:len≠0) :
  wD h sz z (.sl id sz off len)=some (.tup [],h.set id (.arr ety sz (dE xs (List.replicate len z) off) cap)):=by
 simp[wD,h0,hg,hl,aM]
theorem PD(X:List DV)(i:Nat)(hi:i+1<X.length):dE X (X.drop (i+1)) i=(X.take i++X.drop (i+1))++X.drop (X.length-1):=by
 unfold dE
 rw[List.length_drop]
 congr 2
 omega
theorem Jh(A B ys:List DV):dE (A++B) ys A.length=A++(ys++B.drop ys.length):=by
 unfold dE
 rw[List.take_left' rfl,List.append_assoc,List.drop_append]
 simp
theorem s158(lo:Nat)(h:aA)(v:DV)(xs:List bC)(i:Nat)(ho:Own lo h v 93 4 (xs.map aG))(hi:i<xs.length)(hl:xs.length≤1000000)(wf:WF h)(dV:lo≤h.n) :
  ∃ v' h',fc D 158 [v,.int .i64 (i:Int),.int .i64 ((i:Int)+1)] h=some (v',h')∧OwnR lo h' v' 93 4 ((xs.take i++xs.drop (i+1)).map aG)∧Ext lo h h'∧iH 93 h h':=by
 rw[e158]
 cases ho with
 | nil hv hx =>
  have At:xs=[]:=List.map_eq_nil_iff.1 hx
  subst At
  simp at hi
 | arr id hv hg Ee lS =>
  subst hv
  have bD:=bB hg
  have hb3:yM (.sl id 4 0 xs.length) (.int .i64 (i:Int)) (.int .i64 ((i:Int)+1)) (.int .i64 (xs.length:Int))=some .unk:=Jk (hi:=i+1) (by omega) (by omega)
  have eG:¬((i:Int)=(i:Int)+1):=by omega
  rw[aJ _ _ _ _ (by simp[DF])]
  by_cases hend:i+1=xs.length
  ·have h1:i+1≤xs.length:=by omega
   have e2:xs.length-(i+1)=0:=by omega
   have e3:List.drop (i+1) xs=[]:=List.drop_eq_nil_of_le (by omega)
   have e4:xs.length-i=1:=by omega
   have hn0:(i:Int)≤(xs.length:Int):=by omega
   have T1:∀z,wD h 4 z (.sl id 4 i 1)=some (.tup [],h.set id (.arr 93 4 (dE (xs.map aG) [z] i) none)):=fun z=>rN (len:=1) hg (by simp;omega) Ee (by decide)
   have GO:aY h 93 4 48 (.sl id 4 0 i) []=some (.sl id 4 0 i,h):=rfl
   have kE:i≤xs.length:=by omega
   simp[DF,yO,uC,hb3,eG,hg,h1,e2,e3,e4,T1,GO,kE]
   refine⟨_,_,⟨rfl,rfl⟩,.arr id [(.agg [.int .i64 0,.int .i64 0,.nsl,.int .i64 0])] none (by simp;omega) ?_ Ee lS,(Ext.refl dV wf).set lS bD,(iH.refl _ _).set wf hg bD⟩
   rw[cA wf bD,if_pos rfl]
   simp[dE]
   omega
  ·have h1:i+1≤xs.length:=by omega
   have h2:i+1<(xs.map aG).length:=by simp;omega
   have e1:List.take (xs.length-(i+1)) (List.drop (i+1) (List.map aG xs))=List.drop (i+1) (List.map aG xs):=List.take_of_length_le (by simp)
   have e5:i+1+(xs.length-(i+1))≤xs.length:=by omega
   have e6:i+(xs.length-(i+1))=xs.length-1:=by omega
   have e7:xs.length-(xs.length-1)=1:=by omega
   have kE:i≤xs.length:=by omega
   have hq:xs.length-1≤xs.length:=by omega
   obtain⟨H,hH⟩:∃ H,H=h.set id (.arr 93 4 ((xs.map aG).take i++(xs.map aG).drop (i+1)++(xs.map aG).drop (xs.length-1)) none):=⟨_,rfl⟩
   have GO:aY h 93 4 48 (.sl id 4 0 i) (List.drop (i+1) (List.map aG xs))=some (.sl id 4 0 (xs.length-1),H):=by
    rw[kS hg (by simp;omega) Ee (by simp;omega) (by decide) (by simp;omega),PD _ _ h2,hH]
    simp[e6]
   have gH:H.get id=some (.arr 93 4 ((xs.map aG).take i++(xs.map aG).drop (i+1)++(xs.map aG).drop (xs.length-1)) none):=by rw[hH,cA wf bD,if_pos rfl]
   have lH:H.lim=h.lim:=by rw[hH];rfl
   have wH:WF H:=by rw[hH];exact wf.set
   have nH:H.n=h.n:=by rw[hH];rfl
   have Ze:(List.take i (xs.map aG)++List.drop (i+1) (xs.map aG)).length=xs.length-1:=by simp;omega
   have T1:∀z,wD H 4 z (.sl id 4 (xs.length-1) 1)=some (.tup [],H.set id (.arr 93 4 (dE ((xs.map aG).take i++(xs.map aG).drop (i+1)++(xs.map aG).drop (xs.length-1)) [z] (xs.length-1)) none)):=fun z=>rN (len:=1) gH (by simp;omega) (by rw[lH];exact Ee) (by decide)
   have Bx:IntKind.i64.wrap ((xs.length-1:Nat):Int)=((xs.length-1:Nat):Int):=aX (by omega) (by omega)
   have E1:Jj 4 4 id 0 (xs.length-1) (some (.int .i64 ((xs.length-1:Nat):Int))) (some (.int .i64 ((xs.length:Nat):Int))) (H.get id)=some (.sl id 4 (xs.length-1) 1):=by
    have hL:(List.take i (xs.map aG)++List.drop (i+1) (xs.map aG)++List.drop (xs.length-1) (xs.map aG)).length=xs.length:=by simp;omega
    rw[gH,wZ,hL,if_pos ⟨rfl,rfl,by omega⟩,jP _ _ _ _ (by omega),wY,jP _ _ _ _ (by omega),En]
    simp[e7]
   simp[DF,yO,uC,hb3,eG,hg,h1,e1,GO,kE,E1,T1]
   refine⟨_,_,⟨rfl,rfl⟩,.arr id [(.agg [.int .i64 0,.int .i64 0,.nsl,.int .i64 0])] none (by simp;omega) ?_ ?_ lS,?_,?_⟩
   ·rw[cA wH (by rw[nH];exact bD),if_pos rfl]
    have:=Jh (List.take i (xs.map aG)++List.drop (i+1) (xs.map aG)) (List.drop (xs.length-1) (xs.map aG)) [(.agg [.int .i64 0,.int .i64 0,.nsl,.int .i64 0])]
    rw[Ze]at this
    rw[List.append_assoc]at this
    rw[this]
    simp
    omega
   ·show H.lim≤id
    rw[lH];exact Ee
   ·rw[hH]
    exact((Ext.refl dV wf).set lS bD).set lS (by exact bD)
   ·rw[hH]
    exact((iH.refl _ _).set wf hg bD).set wf.set hg (by exact bD)
theorem s198(lo:Nat)(h:aA)(v:DV)(xs:List aV)(i:Nat)(ho:Own lo h v 114 7 (xs.map aD))(hi:i<xs.length)(hl:xs.length≤1000000)(wf:WF h)(dV:lo≤h.n) :
  ∃ v' h',fc D 198 [v,.int .i64 (i:Int),.int .i64 ((i:Int)+1)] h=some (v',h')∧OwnR lo h' v' 114 7 ((xs.take i++xs.drop (i+1)).map aD)∧Ext lo h h'∧iH 114 h h':=by
 rw[e198]
 cases ho with
 | nil hv hx =>
  have At:xs=[]:=List.map_eq_nil_iff.1 hx
  subst At
  simp at hi
 | arr id hv hg Ee lS =>
  subst hv
  have bD:=bB hg
  have hb3:yM (.sl id 7 0 xs.length) (.int .i64 (i:Int)) (.int .i64 ((i:Int)+1)) (.int .i64 (xs.length:Int))=some .unk:=Jk (hi:=i+1) (by omega) (by omega)
  have eG:¬((i:Int)=(i:Int)+1):=by omega
  rw[aJ _ _ _ _ (by simp[CU])]
  by_cases hend:i+1=xs.length
  ·have h1:i+1≤xs.length:=by omega
   have e2:xs.length-(i+1)=0:=by omega
   have e3:List.drop (i+1) xs=[]:=List.drop_eq_nil_of_le (by omega)
   have e4:xs.length-i=1:=by omega
   have hn0:(i:Int)≤(xs.length:Int):=by omega
   have T1:∀z,wD h 7 z (.sl id 7 i 1)=some (.tup [],h.set id (.arr 114 7 (dE (xs.map aD) [z] i) none)):=fun z=>rN (len:=1) hg (by simp;omega) Ee (by decide)
   have GO:aY h 114 7 72 (.sl id 7 0 i) []=some (.sl id 7 0 i,h):=rfl
   have kE:i≤xs.length:=by omega
   simp[CU,yO,uC,hb3,eG,hg,h1,e2,e3,e4,T1,GO,kE]
   refine⟨_,_,⟨rfl,rfl⟩,.arr id [(.agg [.int .i64 0,.int .i64 0,.int .i64 0,.int .i64 0,.nsl,.int .i64 0,.bool false])] none (by simp;omega) ?_ Ee lS,(Ext.refl dV wf).set lS bD,(iH.refl _ _).set wf hg bD⟩
   rw[cA wf bD,if_pos rfl]
   simp[dE]
   omega
  ·have h1:i+1≤xs.length:=by omega
   have h2:i+1<(xs.map aD).length:=by simp;omega
   have e1:List.take (xs.length-(i+1)) (List.drop (i+1) (List.map aD xs))=List.drop (i+1) (List.map aD xs):=List.take_of_length_le (by simp)
   have e5:i+1+(xs.length-(i+1))≤xs.length:=by omega
   have e6:i+(xs.length-(i+1))=xs.length-1:=by omega
   have e7:xs.length-(xs.length-1)=1:=by omega
   have kE:i≤xs.length:=by omega
   have hq:xs.length-1≤xs.length:=by omega
   obtain⟨H,hH⟩:∃ H,H=h.set id (.arr 114 7 ((xs.map aD).take i++(xs.map aD).drop (i+1)++(xs.map aD).drop (xs.length-1)) none):=⟨_,rfl⟩
   have GO:aY h 114 7 72 (.sl id 7 0 i) (List.drop (i+1) (List.map aD xs))=some (.sl id 7 0 (xs.length-1),H):=by
    rw[kS hg (by simp;omega) Ee (by simp;omega) (by decide) (by simp;omega),PD _ _ h2,hH]
    simp[e6]
   have gH:H.get id=some (.arr 114 7 ((xs.map aD).take i++(xs.map aD).drop (i+1)++(xs.map aD).drop (xs.length-1)) none):=by rw[hH,cA wf bD,if_pos rfl]
   have lH:H.lim=h.lim:=by rw[hH];rfl
   have wH:WF H:=by rw[hH];exact wf.set
   have nH:H.n=h.n:=by rw[hH];rfl
   have Ze:(List.take i (xs.map aD)++List.drop (i+1) (xs.map aD)).length=xs.length-1:=by simp;omega
   have T1:∀z,wD H 7 z (.sl id 7 (xs.length-1) 1)=some (.tup [],H.set id (.arr 114 7 (dE ((xs.map aD).take i++(xs.map aD).drop (i+1)++(xs.map aD).drop (xs.length-1)) [z] (xs.length-1)) none)):=fun z=>rN (len:=1) gH (by simp;omega) (by rw[lH];exact Ee) (by decide)
   have Bx:IntKind.i64.wrap ((xs.length-1:Nat):Int)=((xs.length-1:Nat):Int):=aX (by omega) (by omega)
   have E1:Jj 7 7 id 0 (xs.length-1) (some (.int .i64 ((xs.length-1:Nat):Int))) (some (.int .i64 ((xs.length:Nat):Int))) (H.get id)=some (.sl id 7 (xs.length-1) 1):=by
    have hL:(List.take i (xs.map aD)++List.drop (i+1) (xs.map aD)++List.drop (xs.length-1) (xs.map aD)).length=xs.length:=by simp;omega
    rw[gH,wZ,hL,if_pos ⟨rfl,rfl,by omega⟩,jP _ _ _ _ (by omega),wY,jP _ _ _ _ (by omega),En]
    simp[e7]
   simp[CU,yO,uC,hb3,eG,hg,h1,e1,GO,kE,E1,T1]
   refine⟨_,_,⟨rfl,rfl⟩,.arr id [(.agg [.int .i64 0,.int .i64 0,.int .i64 0,.int .i64 0,.nsl,.int .i64 0,.bool false])] none (by simp;omega) ?_ ?_ lS,?_,?_⟩
   ·rw[cA wH (by rw[nH];exact bD),if_pos rfl]
    have:=Jh (List.take i (xs.map aD)++List.drop (i+1) (xs.map aD)) (List.drop (xs.length-1) (xs.map aD)) [(.agg [.int .i64 0,.int .i64 0,.int .i64 0,.int .i64 0,.nsl,.int .i64 0,.bool false])]
    rw[Ze]at this
    rw[List.append_assoc]at this
    rw[this]
    simp
    omega
   ·show H.lim≤id
    rw[lH];exact Ee
   ·rw[hH]
    exact((Ext.refl dV wf).set lS bD).set lS (by exact bD)
   ·rw[hH]
    exact((iH.refl _ _).set wf hg bD).set wf.set hg (by exact bD)
end Go.Dm.Tc
namespace Go.Dm.Tc
def E5:DV:=.agg [.int .i64 0,.int .i64 0,.int .i64 0,.int .i64 0,.nsl,.int .i64 0,.bool false]
theorem l159(lo:Nat)(h:aA)(xs:List aV)(id g:Nat)(cap:List DV)(p:aV→Bool)(hl:xs.length≤1000000)(lS:lo≤id)(aM:h.lim≤id)(bD:id<h.n)(dV:lo≤h.n)
  (Fe:∃ s ys c,h.get id=some (.arr 114 s ys c))
  (WA:∀x∈xs,∀h',Ext lo h h'→fc D g ([aD x]++cap) h'=some (.bool (p x),h')) :
  ∀(rest:List aV) (j k:Nat) (kept zs:List aV) (f:cY) (H:aA),xs.drop j=rest→k<j→kept.length=k→zs.length=xs.length→zs.take k=kept→zs.drop j=rest→k<xs.length →
   H.get id=some (.arr 114 7 (zs.map aD) none)→f 0=.sl id 7 0 xs.length→f 1=.func g cap→f 5=.int .i64 k→f 6=.int .i64 j→Ext lo h H→iH 114 h H→h.n≤H.n →
  ∃ v' h',fin [.t 4] (run D 42 [.block 0,.seq I8] (.loop Qs) f H)=some (v',h')∧OwnR lo h' v' 114 7 ((kept++rest.filter (fun x=>!p x)).map aD)∧Ext lo h h'∧iH 114 h h':=by
 obtain⟨s0,ys0,c0,Fe⟩:=Fe
 intro rest
 induction rest with
 | nil =>
  intro j k kept zs f H hd hkj Pa i9 He hdj QH hg h0 h1 h5 h6 hx hK hn
  have hi:=bR hd
  have hnl:¬(j<xs.length):=by omega
  have hkl':k≤xs.length:=by omega
  have hd0:xs.length-k≠0:=by omega
  have T1:∀z,wD H 7 z (.sl id 7 k (xs.length-k))=some (.tup [],H.set id (.arr 114 7 (dE (zs.map aD) (List.replicate (xs.length-k) z) k) none)):=fun z=>rN hg (by simp;omega) (by rw[hx.lim];exact aM) hd0
  have hltH:id<H.n:=by omega
  have hspl:∀zs':List DV,zs'.length=xs.length-k→dE (List.map aD zs) zs' k=kept.map aD++zs':=fun zs' hz=>by
   unfold dE
   rw[←List.map_take,He,List.drop_eq_nil_of_le (by simp;omega),List.append_nil]
  have E1:(List.map aD kept++List.replicate (xs.length-k) E5).length=xs.length:=by simp;omega
  rw[aC Qs.eq_1]
  simp[I8,h0,h5,h6,hnl,hg,i9,hkl',uC,T1,hx.wf,hltH,hspl]
  rw[show(DV.agg [.int .i64 0,.int .i64 0,.int .i64 0,.int .i64 0,.nsl,.int .i64 0,.bool false])=E5 from rfl]
  have Tx:k≤kept.length+(xs.length-k):=by omega
  have hkl3:xs.length≤kept.length+(xs.length-k):=by omega
  simp[Tx,hkl3]
  refine⟨_,_,⟨rfl,rfl⟩,.arr id (List.replicate (xs.length-k) E5) none (by simp;omega) ?_ ?_ lS,?_,?_⟩
  ·rw[cA hx.wf hltH,if_pos rfl]
  ·show H.lim≤id
   rw[hx.lim];exact aM
  ·exact hx.set lS hltH
  ·exact hK.set hx.wf Fe hltH
 | cons e rest ih =>
  intro j k kept zs f H hd hkj Pa i9 He hdj QH hg h0 h1 h5 h6 hx hK hn
  obtain⟨hi,he,fI⟩:=cB hd
  have hltH:id<H.n:=by omega
  have Tv:¬id=H.n:=by omega
  have hlimH:H.lim≤H.n:=by rw[hx.lim];omega
  have hlimI:H.lim≤id:=by rw[hx.lim];exact aM
  obtain⟨hjy,hyj,hdj'⟩:=cB hdj
  have hyj':(zs.map aD)[j]?=some (aD e):=by rw[List.getElem?_map,List.getElem?_eq_getElem hjy,hyj];rfl
  have sM:=WA e (by rw[←he];exact List.getElem_mem hi)
  simp only[aD]at sM
  have BC:=hx.push (o:=.arr 114 7 [aD e] (some 1))
  have hgx1:=sM _ BC
  simp only[aD,List.cons_append,List.nil_append]at hgx1
  simp only[aD,List.getElem?_map]at hyj'
  rw[aC Qs.eq_1]
  have xO:∀q:Nat,q<xs.length→bS 7 (.sl id 7 0 xs.length) (.int .i64 (q:Int))=some (.ptr id 7 q 0):=fun q hq=>by simp[bS,asI,hq]
  have hkn':k<zs.length:=by omega
  have VU:(zs.map aD)[k]?=some (aD zs[k]):=by rw[List.getElem?_map,List.getElem?_eq_getElem hkn'];rfl
  simp only[aD,List.getElem?_map]at VU
  cases hp:p e with
  | true =>
   rw[hp]at hgx1
   simp[h0,h1,h5,h6,hi,xO,hg,hyj',hlimH,hgx1]
   rw[aX (by omega) (by omega)]
   have hf:(e::rest).filter (fun x=>!p x)=rest.filter (fun x=>!p x):=by simp[hp]
   rw[hf]
   rw[←List.map_append]
   refine ih (j+1) k kept zs _ (H.push (.arr 114 7 [aD e] (some 1))) fI (by omega) Pa i9 He hdj' QH ?_ ?_ ?_ ?_ ?_ BC hK.push (by show h.n≤H.n+1;omega)
   ·rw[cN,if_neg Tv];exact hg
   all_goals simp[h0,h1,h5]
  | false =>
   rw[hp]at hgx1
   have BD:IntKind.i64.wrap ((k:Int)+1)=(k:Int)+1:=aX (by omega) (by omega)
   have VW:IntKind.i64.wrap ((j:Int)+1)=(j:Int)+1:=aX (by omega) (by omega)
   have hf:(e::rest).filter (fun x=>!p x)=e::rest.filter (fun x=>!p x):=by simp[hp]
   rw[hf,List.append_cons]
   generalize sL:kept++[e]=kept'
   simp[h0,h1,h5,h6,hi,xO,hg,hyj',hlimH,hgx1,QH,VU,hlimI,Tv,BD,VW,turn,hltH]
   rw[←List.map_append]
   have Au:(List.map aD zs).set k (DV.agg [.int .i64 e.tree.aS,.int .i64 e.tree.seq,.int .i64 e.sub.aS,.int .i64 e.sub.seq,bF e.pred,.int .i64 e.bL,.bool e.up])=(zs.set k e).map aD:=by rw[List.map_set];rfl
   rw[Au]
   refine ih (j+1) (k+1) kept' (zs.set k e) _ ((H.set id (.arr 114 7 ((zs.set k e).map aD) none)).push (.arr 114 7 [aD e] (some 1))) fI (by omega) (by rw[←sL];simp[Pa]) (by simp[i9]) ?_ ?_ (by omega) ?_ ?_ ?_ ?_ ?_ ((hx.set lS hltH).push) ((hK.set hx.wf Fe hltH).push) (by show h.n≤H.n+1;omega)
   ·rw[←sL,List.take_succ_eq_append_getElem (by simp;omega),List.take_set_of_le (by omega),He];simp
   ·rw[List.drop_set_of_lt (by omega)];exact hdj'
   ·rw[cN,if_neg (by exact Tv),cA hx.wf hltH,if_pos rfl]
   all_goals simp[h0,h1]
theorem GJ{α:Type}{p:α→Bool}{xs:List α}{i:Nat}(h:xs.findIdx? p=some i):i<xs.length∧(xs.filter fun x=>!p x)=xs.take i++(xs.drop (i+1)).filter fun x=>!p x:=by
 obtain⟨hi,hp,hq⟩:=List.findIdx?_eq_some_iff_getElem.1 h
 refine⟨hi,?_⟩
 have h1:(xs.take i).filter (fun x=>!p x)=xs.take i:=by
  rw[List.filter_eq_self]
  intro a ha
  obtain⟨j,hj,rfl⟩:=List.mem_iff_getElem.1 ha
  rw[List.length_take]at hj
  have:=hq j (by omega)
  simpa using this
 have h2:(xs.drop i).filter (fun x=>!p x)=(xs.drop (i+1)).filter (fun x=>!p x):=by
  rw[List.drop_eq_getElem_cons hi,List.filter_cons,hp];simp
 calc xs.filter (fun x=>!p x)=(xs.take i++xs.drop i).filter (fun x=>!p x):=by rw[List.take_append_drop]
  _=_:=by rw[List.filter_append,h1,h2]
theorem NY{α:Type}{p:α→Bool}{xs:List α}(h:xs.findIdx? p=none):(xs.filter fun x=>!p x)=xs:=by
 rw[List.findIdx?_eq_none_iff]at h
 rw[List.filter_eq_self]
 intro a ha
 simp[h a ha]
theorem s159(lo:Nat)(h:aA)(v:DV)(xs:List aV)(g:Nat)(cap iO:List DV)(p:aV→Bool)(ho:Own lo h v 114 7 (xs.map aD))(hl:xs.length≤1000000)(wf:WF h)(dV:lo≤h.n)
  (hr:resolve true h 200 (.func g cap)=some (.func g iO))
  (hp1:∀x∈xs,∀h',fc D g ([aD x]++iO) h'=some (.bool (p x),h'))
  (WA:∀x∈xs,∀h',Ext lo h h'→fc D g ([aD x]++cap) h'=some (.bool (p x),h')) :
  ∃ v' h',fc D 159 [v,.func g cap] h=some (v',h')∧OwnR lo h' v' 114 7 ((xs.filter fun x=>!p x).map aD)∧Ext lo h h'∧iH 114 h h':=by
 have Gf:=fun t=>s139 t xs g iO p hp1 hl
 have hrv:=ho.resolve (n:=200) true (fun y _=>(cC y).1) (by decide)
 rw[e159,aJ _ _ _ _ (by simp[DE])]
 cases hf:xs.findIdx? p with
 | none =>
  rw[hf]at Gf
  simp[DE,y6,-Cq,hr,hrv,Gf,gY]
  refine⟨_,_,⟨rfl,rfl⟩,?_,.refl dV wf,.refl _ _⟩
  rw[NY hf]
  exact ho.toR
 | some i =>
  rw[hf]at Gf
  obtain⟨hi,hsp⟩:=GJ hf
  have eG:¬((i:Int)=-1):=by omega
  have hw:IntKind.i64.wrap ((i:Int)+1)=(i:Int)+1:=aX (by omega) (by omega)
  cases ho with
  | nil hv hx =>
   have At:xs=[]:=List.map_eq_nil_iff.1 hx
   subst At
   simp at hi
  | arr id hv hg Ee lS =>
   subst hv
   have bD:=bB hg
   simp only[List.length_map]at hrv
   simp[DE,y6,-Cq,-lB,hr,hrv,Gf,gY,eG,hw]
   rw[hsp]
   refine l159 lo h xs id g cap p hl lS Ee bD dV ⟨_,_,_,hg⟩ WA _ (i+1) i (xs.take i) xs _ h rfl (by omega) (by simp;omega) rfl rfl rfl hi hg ?_ ?_ ?_ ?_ (.refl dV wf) (.refl _ _) (Nat.le_refl _)<;>simp
end Go.Dm.Tc
namespace Go.Dm.Tc
theorem SG(a:Int):pcF D DB [.int .i64 a]=some (.bool false):=by
 unfold pcF
 rw[aJ _ _ _ _ (by simp[DB])]
 simp[DB]
def B6(a b:Int):Int:=if a<b then -1 else if b<a then 1 else 0
theorem s134(a b:Int):pcF D Wa [.int .i64 a,.int .i64 b]=some (.int .i64 (B6 a b)):=by
 unfold pcF
 rw[aJ _ _ _ _ (by simp[Wa])]
 by_cases h1:a<b
 ·simp[Wa,UW,SG,h1,B6]
 ·by_cases h2:b<a
  ·simp[Wa,UW,SG,h1,h2,B6]
  ·simp[Wa,UW,SG,h1,h2,B6]
def orI(a b:Int):Int:=if a=0 then b else a
theorem s77(t:Bool)(a b:Int):pcF D t77 [.isl t 1 [.int .i64 a,.int .i64 b]]=some (.int .i64 (orI a b)):=by
 unfold pcF
 rw[aJ _ _ _ _ (by simp[t77])]
 simp[t77]
 rw[aC Y3.eq_1]
 by_cases h1:a=0
 ·simp[h1,orI,bS,asI]
  rw[aC Y3.eq_1]
  by_cases h2:b=0
  ·simp[h2,bS,asI]
   rw[aC Y3.eq_1]
   simp[VN]
  ·simp[h2,bS,asI]
 ·simp[h1,orI,bS,asI]
def bW(a b:ID):Int:=orI (B6 a.aS b.aS) (B6 a.seq b.seq)
theorem s78(a b c d:Int):pcF D t78 [.agg [.int .i64 a,.int .i64 b],.agg [.int .i64 c,.int .i64 d]]=some (.int .i64 (bW ⟨a,b⟩ ⟨c,d⟩)):=by
 unfold pcF
 rw[aJ _ _ _ _ (by simp[t78])]
 simp[t78,e134,s134,e77,mkIsl,s77,bW]
def kN(a b:ID):Bool:=decide (bW a b<0)
theorem s70(a b c d:Int):pcF D t70 [.agg [.int .i64 a,.int .i64 b],.agg [.int .i64 c,.int .i64 d]]=some (.bool (kN ⟨a,b⟩ ⟨c,d⟩)):=by
 unfold pcF
 rw[aJ _ _ _ _ (by simp[t70])]
 simp[t70,e78,s78,kN]
theorem s181(a b:Int)(p:bI)(q c d:Int):pcF D CY [.agg [.int .i64 a,.int .i64 b,bF p,.int .i64 q],.agg [.int .i64 c,.int .i64 d]]=some (.int .i64 (bW ⟨a,b⟩ ⟨c,d⟩)):=by
 unfold pcF
 rw[aJ _ _ _ _ (by simp[CY])]
 simp[CY,e78,s78]
def dU(l:List ID):Prop:=l.Pairwise fun a b=>bW a b<0
theorem fZ{a b:ID}:bW a b<0↔a.aS<b.aS∨a.aS=b.aS∧a.seq<b.seq:=by
 unfold bW orI B6
 split<;>split<;>(try split)<;>(try split)<;>omega
theorem uW{a b:ID}:bW a b=0↔a=b:=by
 cases a;cases b
 simp only[ID.mk.injEq]
 unfold bW orI B6
 simp only
 split<;>split<;>(try split)<;>(try split)<;>omega
theorem Gs{a b c:ID}(h1:bW a b<0)(h2:bW b c<0):bW a c<0:=by
 rw[fZ]at *;omega
theorem HL(a b:ID):bW a b<0∨a=b∨bW b a<0:=by
 rw[fZ,fZ]
 cases a;cases b
 simp only[ID.mk.injEq]
 omega
theorem rT{α:Type}{key:α→ID}{xs:List α}(h:dU (xs.map key))(x:ID):∀i j (hi:i<xs.length) (hj:j<xs.length),i≤j→bW (key xs[j]) x<0→bW (key xs[i]) x<0:=by
 intro i j hi hj UB bD
 rcases Nat.lt_or_eq_of_le UB with hl|rfl
 ·have:=List.pairwise_iff_getElem.1 h i j (by simpa using hi) (by simpa using hj) hl
  simp only[List.getElem_map]at this
  exact Gs this bD
 ·exact bD
theorem s136(x0 x1 x2 x4 x5:DV)(t:Bool)(l:List ID)(c d:Int)(hr:dU l)(hl:l.length≤1000000) :
  pcF D DS [.agg [x0,x1,x2,eL t 2 eID l,x4,x5],.agg [.int .i64 c,.int .i64 d]]=some (.tup [.int .i64 (aU (fun a=>bW a ⟨c,d⟩) l),.bool (fF (fun a=>bW a ⟨c,d⟩) l)]):=by
 have hb:=s178 t l c d 78 [] (fun a=>bW a ⟨c,d⟩) (fun x _ h=>by simp[eID,e78,s78]) hl (by
  have:=rT (key:=fun a:ID=>a) (xs:=l) (by simpa using hr) ⟨c,d⟩
  exact this)
 unfold pcF
 rw[aJ _ _ _ _ (by simp[DS])]
 simp[DS,e178,hb,aI]
theorem EJ(x0 x1 x3 x4 x5:DV)(t:Bool)(l:List bC)(c d:Int)(hr:dU (l.map (·.id)))(hl:l.length≤1000000) :
  pcF D DQ [.agg [x0,x1,eL t 4 aG l,x3,x4,x5],.agg [.int .i64 c,.int .i64 d]]=some (.tup [.int .i64 (aU (fun a=>bW a.id ⟨c,d⟩) l),.bool (fF (fun a=>bW a.id ⟨c,d⟩) l)]):=by
 have hb:=s180 t l c d 181 [] (fun a=>bW a.id ⟨c,d⟩) (fun x _ h=>by simp[aG,e181,s181]) hl (rT hr ⟨c,d⟩)
 unfold pcF
 rw[aJ _ _ _ _ (by simp[DQ])]
 simp[DQ,e180,hb,aI]
end Go.Dm.Tc
namespace Go.Dm.Tc
theorem s151(h:aA)(me:Int)(t1 t2 t3 t4 t5:Bool)(aL:List Int)(adv:List bC)(seen:List ID)(ent:List aV)(own:List fV)
  (l1:aL.length≤1000000) (l2:adv.length≤1000000) (l3:seen.length≤1000000) (l4:ent.length≤1000000) (l5:own.length≤1000000) (wf:WF h) (aM:h.lim≤h.n) :
  ∃ v1 v2 v3 v4 v5 h',fc D 151 [.agg [.int .i64 me,eL t1 1 bQ aL,eL t2 4 aG adv,eL t3 2 eID seen,eL t4 7 aD ent,eL t5 3 cT own]] h=some (.agg [.int .i64 me,v1,v2,v3,v4,v5],h') ∧
   Own h.n h' v1 3 1 (aL.map bQ)∧Own h.n h' v2 93 4 (adv.map aG)∧Own h.n h' v3 40 2 (seen.map eID)∧Own h.n h' v4 114 7 (ent.map aD)∧Own h.n h' v5 98 3 (own.map cT)∧Ext h.n h h':=by
 rw[e151,aJ _ _ _ _ (by simp[KM])]
 have hm:max (h.n+1+1) h.lim=h.n+2:=by omega
 simp[KM,e112,hm]
 generalize hA:dN _ _ _ _ _=A
 obtain⟨v1,H1,rfl,o1,x1,y1⟩:=Dw (lo:=h.n+2) hA (qG ..) wf.push.push (by simp) (by simp) (by simp;omega) (by simp;omega) (by decide)
 have At:Ext h.n h ((h.push (.arr 36 6 [.agg [.int .i64 me,eL t1 1 bQ aL,eL t2 4 aG adv,eL t3 2 eID seen,eL t4 7 aD ent,eL t5 3 cT own]] (some 1))).push (.arr 36 6 [.agg [.int .i64 0,.nsl,.nsl,.nsl,.nsl,.nsl]] (some 1))):=(Ext.refl (Nat.le_refl _) wf).push.push
 have z1:=At.trans (x1.lower (by omega:h.n≤h.n+2))
 clear hA
 simp at x1 y1 z1 o1
 generalize hK1:wl H1 _=K1 at *
 have a1:=x1.get h.n (by omega)
 have b1:=x1.get (h.n+1) (by omega)
 have q1:=x1.lim
 have w1:=x1.wf
 have n1:=x1.le
 simp at a1 b1 q1
 simp[hK1,a1,q1,hm,e185]
 generalize hA:dN _ _ _ _ _=A
 obtain⟨v2,H2,rfl,o2,x2,y2⟩:=Dw (lo:=h.n+2) hA (qG ..) w1 n1 n1 (by omega) (by simp;omega) (by decide)
 rw[q1]at o2 x2 y2
 have z2:=z1.trans (x2.lower (by omega:h.n≤h.n+2))
 replace o1:=o1.ext y2
 clear hA
 generalize hK2:wl H2 _=K2 at *
 have a2:=x2.get h.n (by omega)
 have b2:=x2.get (h.n+1) (by omega)
 have q2:=x2.lim
 have w2:=x2.wf
 have n2:=x2.le
 rw[a1]at a2
 rw[b1]at b2
 rw[q1]at q2
 simp[hK2,a2,q1,q2,hm,e186]
 generalize hA:dN _ _ _ _ _=A
 obtain⟨v3,H3,rfl,o3,x3,y3⟩:=Dw (lo:=h.n+2) hA (qG ..) w2 n2 n2 (by omega) (by simp;omega) (by decide)
 rw[q2]at o3 x3 y3
 have z3:=z2.trans (x3.lower (by omega:h.n≤h.n+2))
 replace o1:=o1.ext y3
 replace o2:=o2.ext y3
 clear hA
 generalize hK3:wl H3 _=K3 at *
 have a3:=x3.get h.n (by omega)
 have b3:=x3.get (h.n+1) (by omega)
 have q3:=x3.lim
 have w3:=x3.wf
 have n3:=x3.le
 rw[a2]at a3
 rw[b2]at b3
 rw[q2]at q3
 simp[hK3,a3,q2,q3,hm,x7]
 generalize hA:dN _ _ _ _ _=A
 obtain⟨v4,H4,rfl,o4,x4,y4⟩:=Dw (lo:=h.n+2) hA (qG ..) w3 n3 n3 (by omega) (by simp;omega) (by decide)
 rw[q3]at o4 x4 y4
 have z4:=z3.trans (x4.lower (by omega:h.n≤h.n+2))
 replace o1:=o1.ext y4
 replace o2:=o2.ext y4
 replace o3:=o3.ext y4
 clear hA
 generalize hK4:wl H4 _=K4 at *
 have a4:=x4.get h.n (by omega)
 have b4:=x4.get (h.n+1) (by omega)
 have q4:=x4.lim
 have w4:=x4.wf
 have n4:=x4.le
 rw[a3]at a4
 rw[b3]at b4
 rw[q3]at q4
 simp[hK4,a4,q3,q4,hm,e187]
 generalize hA:dN _ _ _ _ _=A
 obtain⟨v5,K5,rfl,o5,x5,y5⟩:=yY (lo:=h.n+2) (qG ..) w4 n4 (by omega) (by simp;omega) (by decide) hA
 have z5:=z4.trans (x5.lower (by omega:h.n≤h.n+2))
 replace o1:=o1.ext y5
 replace o2:=o2.ext y5
 replace o3:=o3.ext y5
 replace o4:=o4.ext y5
 clear hA
 have a5:=x5.get h.n (by omega)
 have b5:=x5.get (h.n+1) (by omega)
 have q5:=x5.lim
 have w5:=x5.wf
 have n5:=x5.le
 rw[a4]at a5
 rw[b4]at b5
 rw[q4]at q5
 have c5:h.n<K5.n:=by omega
 have d5:h.n+1<K5.n:=by omega
 have f5:h.lim≤h.n+1:=by omega
 simp[a5,b5,q5,w5,c5,d5,f5,aM,o1.bE,o2.bE,o3.bE,o4.bE,o5.bE,o1.aP,o2.aP,o3.aP,o4.aP,o5.aP,turn]
 refine⟨v1,v2,v3,v4,v5,_,⟨⟨rfl,rfl,rfl,rfl,rfl⟩,rfl⟩,?_,?_,?_,?_,?_,?_⟩
 ·exact((o1.aW w5 (by omega) c5).aW w5.set (by omega) d5).lower (by omega)
 ·exact((o2.aW w5 (by omega) c5).aW w5.set (by omega) d5).lower (by omega)
 ·exact((o3.aW w5 (by omega) c5).aW w5.set (by omega) d5).lower (by omega)
 ·exact((o4.aW w5 (by omega) c5).aW w5.set (by omega) d5).lower (by omega)
 ·exact((o5.aW w5 (by omega) c5).aW w5.set (by omega) d5).lower (by omega)
 ·exact(z5.set (by omega) c5).set (by omega) d5
end Go.Dm.Tc
namespace Go.Dm.Tc
section
variable {α:Type} (key:α→ID)
def gX(a:α)(l:List α):List α:=l.take (aU (fun b=>bW (key b) (key a)) l)++a::l.drop (aU (fun b=>bW (key b) (key a)) l)
theorem Jr{l:List α}(h:dU (l.map key))(x:ID):(∀i (hi:i<l.length),i<aU (fun b=>bW (key b) x) l→bW (key l[i]) x<0)∧(∀i (hi:i<l.length),aU (fun b=>bW (key b) x) l≤i→¬bW (key l[i]) x<0):=by
 constructor
 ·intro i hi bD
  have:=List.not_of_lt_findIdx (p:=fun b=>!decide (bW (key b) x<0)) bD
  simpa using this
 ·intro i hi dI hc
  have hk:aU (fun b=>bW (key b) x) l<l.length:=Nat.lt_of_le_of_lt dI hi
  have h1:¬bW (key l[aU (fun b=>bW (key b) x) l]) x<0:=by
   have:=List.findIdx_getElem (p:=fun b=>!decide (bW (key b) x<0)) (w:=hk)
   unfold aU
   simpa using this
  exact h1 (rT h x _ _ hk hi dI hc)
theorem Dd{l:List α}(h:dU (l.map key))(x:ID):match l.find? (fun b=>key b=x)with
  | some a=>fF (fun b=>bW (key b) x) l=true∧l[aU (fun b=>bW (key b) x) l]?=some a
  | none=>fF (fun b=>bW (key b) x) l=false:=by
 obtain⟨r1,r2⟩:=Jr key h x
 have uM:∀i j (hi:i<l.length) (hj:j<l.length),key l[i]=x→key l[j]=x→i=j:=by
  intro i j hi hj e1 e2
  rcases Nat.lt_trichotomy i j with bD|he|bD
  ·have:=List.pairwise_iff_getElem.1 h i j (by simpa using hi) (by simpa using hj) bD
   simp only[List.getElem_map,e1,e2]at this
   rw[fZ]at this;omega
  ·exact he
  ·have:=List.pairwise_iff_getElem.1 h j i (by simpa using hj) (by simpa using hi) bD
   simp only[List.getElem_map,e1,e2]at this
   rw[fZ]at this;omega
 cases hf:l.find? (fun b=>key b=x)with
 | some a =>
  have UG:key a=x:=by simpa using List.find?_some hf
  obtain⟨i,hi,xO⟩:=List.mem_iff_getElem.1 (List.mem_of_find?_eq_some hf)
  have hk:aU (fun b=>bW (key b) x) l=i:=by
   refine pL (Nat.le_of_lt hi) (fun q hq=>?_) (fun hq=>?_)
   ·have:=List.pairwise_iff_getElem.1 h q i (by simp;omega) (by simpa using hi) hq
    simp only[List.getElem_map,xO,UG]at this
    exact this
   ·rw[xO,UG,fZ];omega
  have Zg:l[aU (fun b=>bW (key b) x) l]?=some a:=by rw[hk,List.getElem?_eq_getElem hi,xO]
  refine⟨?_,Zg⟩
  unfold fF
  rw[Zg]
  simp only[UG]
  simp[uW]
 | none =>
  unfold fF
  cases hg:l[aU (fun b=>bW (key b) x) l]? with
  | none=>rfl
  | some a =>
   have:key a≠x:=by
    have:=List.find?_eq_none.1 hf a (List.mem_of_getElem? hg)
    simpa using this
   simp only[decide_eq_false_iff_not]
   rw[uW];exact this
end
theorem UA{l:List ID}(hr:dU l)(x:ID):fF (fun b=>bW b x) l=decide (x∈l):=by
 have hf:=Dd (fun a:ID=>a) (by simpa using hr) x
 cases hq:l.find? (fun a=>a=x)with
 | none =>
  rw[hq]at hf
  simp only at hf
  rw[hf]
  have:=List.find?_eq_none.1 hq
  symm
  simp only[decide_eq_false_iff_not]
  intro hm
  exact this x hm (by simp)
 | some a =>
  rw[hq]at hf
  rw[hf.1]
  have h1:a=x:=by simpa using List.find?_some hq
  have h2:=List.mem_of_find?_eq_some hq
  rw[h1]at h2
  simp[h2]
def fR(b:aF)(x:ID):Option bC:=b.aR.find? fun a=>a.id=x
def qB:bC:=⟨⟨0,0⟩,[],0⟩
def hJ{α:Type}:Option α→Bool|some _=>true|none=>false
theorem s89(x0 x1 x3 x4 x5:DV)(t:Bool)(l:List bC)(c d:Int)(hr:dU (l.map (·.id)))(hl:l.length≤1000000)(f0:jU 20 x0)(f1:jU 20 x1)(f3:jU 20 x3)(f4:jU 20 x4)(f5:jU 20 x5) :
  pcF D t89 [.agg [x0,x1,eL t 4 aG l,x3,x4,x5],.agg [.int .i64 c,.int .i64 d]]=some (.tup [aG ((l.find? fun a=>a.id=⟨c,d⟩).getD qB),.bool (hJ (l.find? fun a=>a.id=⟨c,d⟩))]):=by
 have hf:=Dd (fun a:bC=>a.id) hr ⟨c,d⟩
 unfold pcF
 rw[aJ _ _ _ _ (by simp[t89])]
 have g0:∀h,resolve true h 199 x0=some x0:=fun h=>f0 _ _ _ (by decide)
 have g1:∀h,resolve true h 199 x1=some x1:=fun h=>f1 _ _ _ (by decide)
 have g3:∀h,resolve true h 199 x3=some x3:=fun h=>f3 _ _ _ (by decide)
 have g4:∀h,resolve true h 199 x4=some x4:=fun h=>f4 _ _ _ (by decide)
 have g5:∀h,resolve true h 199 x5=some x5:=fun h=>f5 _ _ _ (by decide)
 cases hq:l.find? (fun a=>a.id=⟨c,d⟩)with
 | none =>
  rw[hq]at hf
  simp at hf
  simp[t89,HG,EJ,g0,g1,g3,g4,g5,hr,hl,hf,hq,aG,qB,hJ,aI]
  rfl
 | some a =>
  rw[hq]at hf
  simp at hf
  simp[t89,HG,EJ,g0,g1,g3,g4,g5,hr,hl,hf.1,hf.2,hq,aG,hJ,aI]
structure fT(b:aF):Prop where
 aL:b.aL.length≤100000
 adv:b.aR.length≤100000
 seen:b.seen.length≤100000
 ent:b.entries.length≤100000
 own:b.bU.length≤100000
def bH(b:aF)(a:bC):aF×Bool :=
 if a.id∈b.seen then(b,false)else({b with aR:=gX (fun a=>a.id) a b.aR,seen:=gX (fun x=>x) a.id b.seen},true)
theorem q151{h:aA}{A:Option (DV×aA)}{me:Int}{t1 t2 t3 t4 t5:Bool}{aL:List Int}{adv:List bC}{seen:List ID}{ent:List aV}{own:List fV}(hA:fc D 151 [.agg [.int .i64 me,eL t1 1 bQ aL,eL t2 4 aG adv,eL t3 2 eID seen,eL t4 7 aD ent,eL t5 3 cT own]] h=A)
  (hs:fT ⟨me,aL,adv,seen,ent,own⟩) (wf:WF h) (aM:h.lim≤h.n) :
  ∃ v1 v2 v3 v4 v5 h',A=some (.agg [.int .i64 me,v1,v2,v3,v4,v5],h') ∧
   Own h.n h' v1 3 1 (aL.map bQ)∧Own h.n h' v2 93 4 (adv.map aG)∧Own h.n h' v3 40 2 (seen.map eID)∧Own h.n h' v4 114 7 (ent.map aD)∧Own h.n h' v5 98 3 (own.map cT)∧Ext h.n h h':=by
 subst hA
 obtain⟨z1,z2,z3,z4,z5⟩:=hs
 simp only at z1 z2 z3 z4 z5
 exact s151 h me t1 t2 t3 t4 t5 aL adv seen ent own (by omega) (by omega) (by omega) (by omega) (by omega) wf aM
theorem s102(t:dG)(b:aF)(c d:Int)(p:bI)(q:Int)(hs:fT b)(ra:dU (b.aR.map (·.id)))(rs:dU b.seen) :
  pcF D We [aH t b,.agg [.int .i64 c,.int .i64 d,bF p,.int .i64 q]]=some (.tup [aH .none (bH b ⟨⟨c,d⟩,p,q⟩).1,.bool (bH b ⟨⟨c,d⟩,p,q⟩).2]):=by
 obtain⟨me,aL,adv,seen,ent,own⟩:=b
 unfold pcF
 rw[aJ _ _ _ _ (by simp[We])]
 simp[We,aH]
 generalize hA:fc D _ _ _=A
 obtain⟨v1,v2,v3,v4,v5,K,rfl,o1,o2,o3,o4,o5,x⟩:=q151 hA hs (by simp) (by simp)
 simp at o1 o2 o3 o4 o5 x
 clear hA
 have a0:=x.get 0 (by decide)
 have a1:=x.get 1 (by decide)
 have a2:=x.get 2 (by decide)
 have q0:=x.lim
 have w0:=x.wf
 have n0:=x.le
 simp at a0 a1 a2 q0
 have l0:0<K.n:=by omega
 have l2:2<K.n:=by omega
 have r1:∀o,resolve true (K.set 0 o) 199 v1=some (eL true 1 bQ aL):=fun o=>(o1.aW w0 (by decide) l0).resolve true (fun y _=>(kL y).1) (by decide)
 have r2:∀o,resolve true (K.set 0 o) 199 v2=some (eL true 4 aG adv):=fun o=>(o2.aW w0 (by decide) l0).resolve true (fun y _=>(iK y).1) (by decide)
 have r3:∀o,resolve true (K.set 0 o) 199 v3=some (eL true 2 eID seen):=fun o=>(o3.aW w0 (by decide) l0).resolve true (fun y _=>(qC y).1) (by decide)
 have r4:∀o,resolve true (K.set 0 o) 199 v4=some (eL true 7 aD ent):=fun o=>(o4.aW w0 (by decide) l0).resolve true (fun y _=>(cC y).1) (by decide)
 have r5:∀o,resolve true (K.set 0 o) 199 v5=some (eL true 3 cT own):=fun o=>(o5.aW w0 (by decide) l0).resolve true (fun y _=>(lY y).1) (by decide)
 have E1:seen.length≤1000000:=by have:=hs.seen;simp only at this;omega
 have Bc:adv.length≤1000000:=by have:=hs.adv;simp only at this;omega
 simp only at ra rs
 have hh:=UA rs ⟨c,d⟩
 obtain⟨R,hR⟩:∃ R,R=DV.tup [aH .none (bH ⟨me,aL,adv,seen,ent,own⟩ ⟨⟨c,d⟩,p,q⟩).1,.bool (bH ⟨me,aL,adv,seen,ent,own⟩ ⟨⟨c,d⟩,p,q⟩).2]:=⟨_,rfl⟩
 simp only[aH]at hR
 rw[←hR]
 by_cases hm:(⟨c,d⟩:ID)∈seen
 ·have r1':∀o o',resolve false ((K.set 0 o).set 2 o') 198 v1=some (eL false 1 bQ aL):=fun o o'=>((o1.aW w0 (by decide) l0).aW w0.set (by decide) l2).resolve false (fun y _=>(kL y).1) (by decide)
  have r2':∀o o',resolve false ((K.set 0 o).set 2 o') 198 v2=some (eL false 4 aG adv):=fun o o'=>((o2.aW w0 (by decide) l0).aW w0.set (by decide) l2).resolve false (fun y _=>(iK y).1) (by decide)
  have r3':∀o o',resolve false ((K.set 0 o).set 2 o') 198 v3=some (eL false 2 eID seen):=fun o o'=>((o3.aW w0 (by decide) l0).aW w0.set (by decide) l2).resolve false (fun y _=>(qC y).1) (by decide)
  have r4':∀o o',resolve false ((K.set 0 o).set 2 o') 198 v4=some (eL false 7 aD ent):=fun o o'=>((o4.aW w0 (by decide) l0).aW w0.set (by decide) l2).resolve false (fun y _=>(cC y).1) (by decide)
  have r5':∀o o',resolve false ((K.set 0 o).set 2 o') 198 v5=some (eL false 3 cT own):=fun o o'=>((o5.aW w0 (by decide) l0).aW w0.set (by decide) l2).resolve false (fun y _=>(lY y).1) (by decide)
  simp[a0,a1,a2,q0,w0,l0,l2,e136,s136,r1,r2,r3,r4,r5,r1',r2',r3',r4',r5',rs,E1,hh,hm,aI]
  simp[hR,bH,hm,dG.none]
 ·simp[a0,a1,a2,q0,w0,l0,l2,e136,s136,HG,EJ,r1,r2,r3,r4,r5,rs,ra,E1,Bc,hh,hm]
  generalize hA:fc D _ _ _=A
  obtain⟨v2',K2,rfl,p2,x2,k2⟩:=q152 hA 3 adv ⟨⟨c,d⟩,p,q⟩ (vety:=93) (c:=1) (o2.aW w0 (by decide) l0).push (by simp[aG]) (dB _ _) Bc (by simp[w0]) (by simp;omega) (by simp[q0])
  clear hA
  have b0:=x2.get 0 (by decide)
  have b1:=x2.get 1 (by decide)
  have b2:=x2.get 2 (by decide)
  have q2:=x2.lim
  have w2:=x2.wf
  have m2:=x2.le
  have z0:¬0=K.n:=by omega
  have z1:¬1=K.n:=by omega
  have z2:¬2=K.n:=by omega
  simp[a1,a2,w0,l0,q0,z0,z1,z2]at b0 b1 b2 q2
  have p1:=(((o1.aW w0 (by decide) l0).push).keep k2 x2.lim (by decide))
  have p3:=(((o3.aW w0 (by decide) l0).push).keep k2 x2.lim (by decide))
  have p4:=(((o4.aW w0 (by decide) l0).push).keep k2 x2.lim (by decide))
  have p5:=(((o5.aW w0 (by decide) l0).push).keep k2 x2.lim (by decide))
  have m0:0<K2.n:=by omega
  have m22:2<K2.n:=by omega
  simp[b0,b1,b2,q2,w2,m0,m22,p2.bE,p2.aP,turn]
  generalize hA:fc D _ _ _=A
  obtain⟨v3',K3,rfl,p3',x3,k3⟩:=q153 hA 3 seen ⟨c,d⟩ (vety:=40) (c:=1) (p3.aW w2 (by decide) m0).push (by simp[eID]) (dB _ _) E1 (by simp[w2]) (by simp;omega) (by simp[q2])
  clear hA
  have c0:=x3.get 0 (by decide)
  have c1:=x3.get 1 (by decide)
  have c2:=x3.get 2 (by decide)
  have q3:=x3.lim
  have w3:=x3.wf
  have m3:=x3.le
  have y0:¬0=K2.n:=by omega
  have y1:¬1=K2.n:=by omega
  have y2:¬2=K2.n:=by omega
  simp[b1,b2,w2,m0,q2,y0,y1,y2]at c0 c1 c2 q3
  have m30:0<K3.n:=by omega
  have m32:2<K3.n:=by omega
  replace p1:=((p1.aW w2 (by decide) m0).push).keep k3 x3.lim (by decide)
  replace p2:=((p2.aW w2 (by decide) m0).push).keep k3 x3.lim (by decide)
  replace p4:=((p4.aW w2 (by decide) m0).push).keep k3 x3.lim (by decide)
  replace p5:=((p5.aW w2 (by decide) m0).push).keep k3 x3.lim (by decide)
  have r1':∀o o',resolve false ((K3.set 0 o).set 2 o') 198 v1=some (eL false 1 bQ aL):=fun o o'=>((p1.aW w3 (by decide) m30).aW w3.set (by decide) m32).resolve false (fun y _=>(kL y).1) (by decide)
  have r2':=fun o o'=>((p2.aW (o:=o) w3 (by decide) m30).aW (o:=o') w3.set (by decide) m32).resolve (n:=198) false (fun y _=>(iK y).1) (by decide)
  have r3':=fun o o'=>((p3'.aW (o:=o) w3 (by decide) m30).aW (o:=o') w3.set (by decide) m32).resolve (n:=198) false (fun y _=>(qC y).1) (by decide)
  have r4':∀o o',resolve false ((K3.set 0 o).set 2 o') 198 v4=some (eL false 7 aD ent):=fun o o'=>((p4.aW w3 (by decide) m30).aW w3.set (by decide) m32).resolve false (fun y _=>(cC y).1) (by decide)
  have r5':∀o o',resolve false ((K3.set 0 o).set 2 o') 198 v5=some (eL false 3 cT own):=fun o o'=>((p5.aW w3 (by decide) m30).aW w3.set (by decide) m32).resolve false (fun y _=>(lY y).1) (by decide)
  simp[c0,c1,c2,q3,w3,m30,m32,p3'.bE,p3'.aP,turn,r1',r2',r3',r4',r5',aI]
  simp[hR,bH,hm,dG.none,gX]
end Go.Dm.Tc
namespace Go.Dm.Tc
theorem s49(a b:bI)(hl:a.length≤1000000):pcF D t49 [bF a,bF b]=some (.bool (decide (a=b))):=by
 unfold pcF
 rw[aJ _ _ _ _ (by simp[t49])]
 have:=s115 false false a b hl
 simp only[←bF.eq_1]at this
 simp[t49,e115,this]
theorem s48(x y:bC)(hl:x.pred.length≤1000000):pcF D t48 [aG x,aG y]=some (.bool (decide (x=y))):=by
 unfold pcF
 rw[aJ _ _ _ _ (by simp[t48])]
 by_cases h1:x.id=y.id
 ·by_cases h2:x.bO=y.bO
  ·have:(x=y)=(x.pred=y.pred):=by cases x;cases y;simp_all
   simp[t48,aG,h1,h2,e49,s49,hl,this]
  ·have:x≠y:=fun h=>h2 (by rw[h])
   simp[t48,aG,h1,h2,this]
 ·have:x≠y:=fun h=>h1 (by rw[h])
  simp[t48,aG,uI h1,this]
theorem s51(x y:aV)(hl:x.pred.length≤1000000):pcF D t51 [aD x,aD y]=some (.bool (decide (x=y))):=by
 unfold pcF
 rw[aJ _ _ _ _ (by simp[t51])]
 by_cases h1:x.tree=y.tree
 ·by_cases h2:x.sub=y.sub
  ·by_cases h3:x.bL=y.bL
   ·by_cases h4:x.up=y.up
    ·have:(x=y)=(x.pred=y.pred):=by cases x;cases y;simp_all
     simp[t51,aD,h1,h2,h3,h4,e49,s49,hl,this]
    ·have:x≠y:=fun h=>h4 (by rw[h])
     simp[t51,aD,h1,h2,h3,beq_eq_false_iff_ne.2 h4,this]
   ·have:x≠y:=fun h=>h3 (by rw[h])
    simp[t51,aD,h1,h2,h3,this]
  ·have:x≠y:=fun h=>h2 (by rw[h])
   simp[t51,aD,h1,uI h2,this]
 ·have:x≠y:=fun h=>h1 (by rw[h])
  simp[t51,aD,uI h1,this]
theorem s53(x y:fV)(hl:x.pred.length≤1000000):pcF D t53 [cT x,cT y]=some (.bool (decide (x=y))):=by
 unfold pcF
 rw[aJ _ _ _ _ (by simp[t53])]
 by_cases h1:x.id=y.id
 ·have:(x=y)=(x.pred=y.pred):=by cases x;cases y;simp_all
  simp[t53,cT,h1,e49,s49,hl,this]
 ·have:x≠y:=fun h=>h1 (by rw[h])
  simp[t53,cT,uI h1,this]
theorem VK{α:Type}[DecidableEq α]:∀(xs ys:List α),qT (fun x y=>decide (x=y)) xs ys=decide (xs=ys):=by
 intro xs
 induction xs with
 | nil=>intro ys;cases ys<;>simp[qT]
 | cons x xs ih=>intro ys;cases ys<;>simp[qT,ih]
structure X0(b:aF):Prop where
 adv:∀x∈b.aR,x.pred.length≤1000000
 ent:∀x∈b.entries,x.pred.length≤1000000
 own:∀x∈b.bU,x.pred.length≤1000000
theorem s16(t u:dG)(a b:aF)(hs:fT a)(hp:X0 a):pcF D t16 [aH t a,aH u b]=some (.bool (decide (a=b))):=by
 obtain⟨z1,z2,z3,z4,z5⟩:=hs
 have q1:=s45 t.aL u.aL a.aL b.aL (by omega)
 have q2:=s46 t.seen u.seen a.seen b.seen (by omega)
 have q3:=s47 t.aR u.aR a.aR b.aR 48 (fun x y=>decide (x=y)) (fun x hx y _ h=>by
  have:=s48 x y (hp.adv x hx)
  simp only[aG]at this
  simp[aG,e48,this]) (by omega)
 have q4:=s50 t.entries u.entries a.entries b.entries 51 (fun x y=>decide (x=y)) (fun x hx y _ h=>by
  have:=s51 x y (hp.ent x hx)
  simp only[aD]at this
  simp[aD,e51,this]) (by omega)
 have q5:=s52 t.bU u.bU a.bU b.bU 53 (fun x y=>decide (x=y)) (fun x hx y _ h=>by
  have:=s53 x y (hp.own x hx)
  simp only[cT]at this
  simp[cT,e53,this]) (by omega)
 rw[VK]at q3 q4 q5
 unfold pcF
 rw[aJ _ _ _ _ (by simp[t16])]
 by_cases h1:a.me=b.me
 ·by_cases h2:a.aL=b.aL
  ·by_cases h3:a.seen=b.seen
   ·by_cases h4:a.aR=b.aR
    ·by_cases h5:a.entries=b.entries
     ·have:(a=b)=(a.bU=b.bU):=by cases a;cases b;simp_all
      simp[t16,aH,h1,q1,q2,q3,q4,q5,eq_true h2,eq_true h3,eq_true h4,eq_true h5,this,e45,e46,e47,e50,e52]
     ·have:a≠b:=fun h=>h5 (by rw[h])
      simp[t16,aH,h1,q1,q2,q3,q4,eq_true h2,eq_true h3,eq_true h4,h5,this,e45,e46,e47,e50]
    ·have:a≠b:=fun h=>h4 (by rw[h])
     simp[t16,aH,h1,q1,q2,q3,eq_true h2,eq_true h3,h4,this,e45,e46,e47]
   ·have:a≠b:=fun h=>h3 (by rw[h])
    simp[t16,aH,h1,q1,q2,eq_true h2,h3,this,e45,e46]
  ·have:a≠b:=fun h=>h2 (by rw[h])
   simp[t16,aH,h1,q1,h2,this,e45]
 ·have:a≠b:=fun h=>h1 (by rw[h])
  simp[t16,aH,h1,this]
end Go.Dm.Tc
namespace Go.Dm.Tc
end Go.Dm.Tc
namespace Go.Dm.Tc
def aT(n lo hi:Int):Int:=if n.tmod (hi-lo+1)<0 then lo+(n.tmod (hi-lo+1)+hi-lo+1)else lo+n.tmod (hi-lo+1)
theorem cZ(n:Int){lo hi:Int}(h:lo≤hi):lo≤aT n lo hi∧aT n lo hi≤hi:=by
 have h1:0<hi-lo+1:=by omega
 have h2:=Int.tmod_lt_of_pos n h1
 have h3:-(hi-lo+1)<n.tmod (hi-lo+1):=by
  have:=Int.lt_tmod_of_pos n h1
  omega
 unfold aT
 split<;>omega
theorem s8(n lo hi:Int)(h:lo≤hi)(dV:-1000000000≤lo)(Hg:hi≤1000000000):pcF D t8 [.int .i64 n,.int .i64 lo,.int .i64 hi]=some (.int .i64 (aT n lo hi)):=by
 unfold pcF
 rw[aJ _ _ _ _ (by simp[t8])]
 have h1:0<hi-lo+1:=by omega
 have h2:=Int.tmod_lt_of_pos n h1
 have h3:-(hi-lo+1)<n.tmod (hi-lo+1):=by
  have:=Int.lt_tmod_of_pos n h1
  omega
 have w1:IntKind.i64.wrap (hi-lo)=hi-lo:=aX (by omega) (by omega)
 have w2:IntKind.i64.wrap (hi-lo+1)=hi-lo+1:=aX (by omega) (by omega)
 have eG:hi-lo+1≠0:=by omega
 have hr:cO .rem (.int .i64 n) (.int .i64 (hi-lo+1))=some (.int .i64 (n.tmod (hi-lo+1))):=by simp[cO,eG]
 by_cases Ay:n.tmod (hi-lo+1)<0
 ·have w3:IntKind.i64.wrap (n.tmod (hi-lo+1)+hi)=n.tmod (hi-lo+1)+hi:=aX (by omega) (by omega)
  have w4:IntKind.i64.wrap (n.tmod (hi-lo+1)+hi-lo)=n.tmod (hi-lo+1)+hi-lo:=aX (by omega) (by omega)
  have w5:IntKind.i64.wrap (n.tmod (hi-lo+1)+hi-lo+1)=n.tmod (hi-lo+1)+hi-lo+1:=aX (by omega) (by omega)
  have w6:IntKind.i64.wrap (lo+(n.tmod (hi-lo+1)+hi-lo+1))=lo+(n.tmod (hi-lo+1)+hi-lo+1):=aX (by omega) (by omega)
  simp[t8,w1,w2,hr,Ay,w3,w4,w5,w6,aT]
 ·have w6:IntKind.i64.wrap (lo+n.tmod (hi-lo+1))=lo+n.tmod (hi-lo+1):=aX (by omega) (by omega)
  simp[t8,w1,w2,hr,Ay,w6,aT]
def lQ:List (List UInt8):=[[97],[98],[99],[100],[101],[102],[103]]
def qO:List (List UInt8):=[[],[120],[120,121],[120,121,122],[120,122],[121],[121,121]]
theorem s91:pcF D t91 []=some (eL false 1 Bk lQ):=by
 unfold pcF
 rw[aJ _ _ _ _ (by simp[t91])]
 simp[t91,List.replicate]
 exact⟨rfl,rfl⟩
theorem ZI:pcF D DM []=some (eL false 1 Bk qO):=by
 unfold pcF
 rw[aJ _ _ _ _ (by simp[DM])]
 simp[DM,List.replicate]
 exact⟨rfl,rfl⟩
def zS(l:List Int)(i:Nat):Int:=if l.length=0 then 0 else l.getD (i % l.length) 0
theorem s93(t:Bool)(l:List Int)(i:Nat):pcF D t93 [eL t 1 bQ l,.int .i64 i]=some (.int .i64 (zS l i)):=by
 unfold pcF
 rw[aJ _ _ _ _ (by simp[t93])]
 cases l with
 | nil=>simp[t93,zS]
 | cons x l =>
  have eG:((l.length:Int)+1)≠0:=by omega
  have hr:cO .rem (.int .i64 (i:Int)) (.int .i64 ((l.length:Int)+1))=some (.int .i64 ((i % (l.length+1):Nat):Int)):=by
   simp only[cO,if_true,if_neg eG]
   congr 2
  have bD:i % (l.length+1)<(x::l).length:=by simp;exact Nat.mod_lt _ (by omega)
  simp[t93,hr,-Int.natCast_emod,List.getElem?_eq_getElem bD,bQ,zS,eG]
def qP(name:List UInt8)(n:Int):fB :=
 if aT n 0 3=0∨aT n 0 3=1 then⟨name,1,aT (IntKind.i64.wrap (n.tdiv 4)) 0 9,aT (IntKind.i64.wrap (n.tdiv 4)) 0 9+aT (IntKind.i64.wrap (n.tdiv 40)) 0 9,[]⟩
 else⟨name,if aT n 0 3=2 then 2 else 3,0,0,qO.getD (aT (IntKind.i64.wrap (n.tdiv 4)) 0 6).toNat []⟩
set_option maxRecDepth 8000 in
theorem s92(name:List UInt8)(n:Int):pcF D t92 [.str name,.int .i64 n]=some (aO (qP name n)):=by
 unfold pcF
 rw[aJ _ _ _ _ (by simp[t92])]
 have w0:=s8 n 0 3 (by decide) (by decide) (by decide)
 have w1:=fun m=>s8 m 0 9 (by decide) (by decide) (by decide)
 have w2:=fun m=>s8 m 0 6 (by decide) (by decide) (by decide)
 have hq4:cO .quo (.int .i64 n) (.int .i64 4)=some (.int .i64 (IntKind.i64.wrap (n.tdiv 4))):=rfl
 have hq40:cO .quo (.int .i64 n) (.int .i64 40)=some (.int .i64 (IntKind.i64.wrap (n.tdiv 40))):=rfl
 by_cases h01:aT n 0 3=0∨aT n 0 3=1
 ·have b1:=cZ (IntKind.i64.wrap (n.tdiv 4)) (show(0:Int)≤9 by decide)
  have b2:=cZ (IntKind.i64.wrap (n.tdiv 40)) (show(0:Int)≤9 by decide)
  have w3:IntKind.i64.wrap (aT (IntKind.i64.wrap (n.tdiv 4)) 0 9+aT (IntKind.i64.wrap (n.tdiv 40)) 0 9)=aT (IntKind.i64.wrap (n.tdiv 4)) 0 9+aT (IntKind.i64.wrap (n.tdiv 40)) 0 9:=aX (by omega) (by omega)
  rcases h01 with h0|h1
  ·simp[t92,e8,w0,w1,hq4,hq40,h0,turn]
   rw[w3]
   simp[qP,aO,h0]
  ·simp[t92,e8,w0,w1,hq4,hq40,h1,turn]
   rw[w3]
   simp[qP,aO,h1]
 ·have b1:=cZ (IntKind.i64.wrap (n.tdiv 4)) (show(0:Int)≤6 by decide)
  have bD:(aT (IntKind.i64.wrap (n.tdiv 4)) 0 6).toNat<qO.length:=by simp[qO];omega
  obtain⟨tx,hx⟩:∃ tx,qO[(aT (IntKind.i64.wrap (n.tdiv 4)) 0 6).toNat]?=some tx:=⟨_,List.getElem?_eq_getElem bD⟩
  have h0:¬aT n 0 3=0:=fun h=>h01 (.inl h)
  have h1:¬aT n 0 3=1:=fun h=>h01 (.inr h)
  by_cases h2:aT n 0 3=2
  ·simp[t92,e8,w0,w2,hq4,h0,h1,h2,turn,x8,ZI,b1.1,hx,Bk]
   simp[qP,aO,h0,h1,h2,hx]
  ·simp[t92,e8,w0,w2,hq4,h0,h1,h2,turn,x8,ZI,b1.1,hx,Bk]
   simp[qP,aO,h0,h1,h2,hx]
end Go.Dm.Tc
namespace Go.Dm.Tc
def IG(n:Int):Int:=IntKind.i64.wrap ((BitVec.ofInt 64 n &&& BitVec.ofInt 64 1).toNat:Int)
def FO(n:Int):Bool:=decide (IG n=1)
def gS(has vals:List Int):List (List UInt8)→Nat→bI→bI
 | [],_,eU=>eU
 | nm::r,i,eU=>if i<has.length∧FO (has.getD i 0)=true∧eU.length<5 then gS has vals r (i+1) (eU++[qP nm (zS vals i)])else gS has vals r (i+1) eU
def eH(has vals:List Int):bI:=gS has vals lQ 0 []
theorem tJ(n:Int):cO .and (.int .i64 n) (.int .i64 1)=some (.int .i64 (IG n)):=rfl
theorem MO{lo:Nat}{h:aA}{v:DV}{ety:Nat}{ys:List fB}(w:Own lo h v ety 5 (ys.map aO)):dC (some (v,h))=some (bF ys):=w.out (fun y _=>(lZ y).1.mono (by decide)) (fun y _=>(lZ y).2.mono (by decide)) (k:=22) (by decide)
set_option maxRecDepth 8000 in
theorem l28(th tv:Bool)(has vals:List Int)(tp:Nat)(h0:aA)(g0:h0.get 0=some (.arr tp 2 [.agg [eL th 1 bQ has,eL tv 1 bQ vals]] (some 1)))(aM:h0.lim=0)(hl:has.length≤9223372036854775807) :
  ∀(rest:List (List UInt8)) (eU:bI) (i:Nat) (f:cY) (h:aA),lQ.drop i=rest→eU.length≤i→f 1=.ptr 0 2 0 0→f 6=eL false 1 Bk lQ→f 7=.int .i64 7→f 8=.int .i64 i→Own 1 h (f 3) 96 5 (eU.map aO)→Ext 1 h0 h →
  dC (fin [.t 2] (run D 43 [.block 0,.seq KJ] (.loop AA) f h))=some (bF (gS has vals rest i eU)):=by
 intro rest
 induction rest with
 | nil =>
  intro eU i f h hd ha h1 h6 h7 h8 ho hx
  have hi:=bR hd
  have:¬((i:Int)<7):=by simp[lQ]at hi;omega
  rw[aC AA.eq_1]
  simp[KJ,h7,h8,this,gS]
  exact MO ho
 | cons nm rest ih =>
  intro eU i f h hd ha h1 h6 h7 h8 ho hx
  obtain⟨hi,he,fI⟩:=cB hd
  have hi7:i<7:=by simpa[lQ]using hi
  have bD:(i:Int)<7:=by omega
  have Nv:=(hx.get 0 (by decide)).trans g0
  have w1:IntKind.i64.wrap ((i:Int)+1)=(i:Int)+1:=aX (by omega) (by omega)
  have hpk:=s93 tv vals i
  have cJ:lenV h 1 (f 3)=some (.int .i64 (eU.length:Int)):=by simpa using ho.lenV
  rw[aC AA.eq_1]
  by_cases c1:i<has.length
  ·obtain⟨b,hb⟩:∃ b,has[i]=b:=⟨_,rfl⟩
   have Lb:has.getD i 0=b:=by rw[List.getD_eq_getElem?_getD,List.getElem?_eq_getElem c1,hb];rfl
   by_cases c2:IG b=1
   ·by_cases c3:eU.length<5
    ·have c3':(eU.length:Int)<5:=by omega
     have hm:gS has vals (nm::rest) i eU=gS has vals rest (i+1) (eU++[qP nm (zS vals i)]):=by simp only[gS];rw[if_pos ⟨c1,by rw[Lb];simp[FO,c2],c3⟩]
     rw[hm]
     simp[h1,h6,h7,h8,bD,Nv,hi,he,Bk,bQ,c1,hb,tJ,c2,cJ,c3',e93,hpk,e92,s92,aO]
     generalize hA:aY _ _ _ _ _ _=A
     obtain⟨v',h',rfl,Ks,uJ⟩:=ho.push.append hx.push.wf hx.push.le (by rw[hx.push.lim,aM];omega) hA (by simp;omega) (by decide)
     simp[w1,h8]
     refine ih (eU++[qP nm (zS vals i)]) (i+1) _ h' fI (by simp;omega) ?_ ?_ ?_ ?_ ?_ (hx.push.trans uJ)<;>simp[h1,h6,h7]
     simpa[aO]using Ks
    ·have c3':¬(eU.length:Int)<5:=by omega
     have hm:gS has vals (nm::rest) i eU=gS has vals rest (i+1) eU:=by simp only[gS];rw[if_neg (fun q=>c3 q.2.2)]
     rw[hm]
     simp[h1,h6,h7,h8,bD,Nv,hi,he,Bk,bQ,c1,hb,tJ,c2,cJ,c3',w1]
     refine ih eU (i+1) _ h fI (by omega) ?_ ?_ ?_ ?_ ?_ hx<;>simp[h1,h6,h7,ho]
   ·have hm:gS has vals (nm::rest) i eU=gS has vals rest (i+1) eU:=by simp only[gS];rw[if_neg (fun q=>c2 (by rw[Lb]at q;simpa[FO]using q.2.1))]
    rw[hm]
    simp[h1,h6,h7,h8,bD,Nv,hi,he,Bk,bQ,c1,hb,tJ,c2,w1]
    refine ih eU (i+1) _ h fI (by omega) ?_ ?_ ?_ ?_ ?_ hx<;>simp[h1,h6,h7,ho]
  ·have c1':¬((i:Int)<has.length):=by omega
   have hm:gS has vals (nm::rest) i eU=gS has vals rest (i+1) eU:=by simp only[gS];rw[if_neg (fun q=>c1 q.1)]
   rw[hm]
   simp[h1,h6,h7,h8,bD,Nv,hi,he,Bk,c1,w1]
   refine ih eU (i+1) _ h fI (by omega) ?_ ?_ ?_ ?_ ?_ hx<;>simp[h1,h6,h7,ho]
theorem s28(th tv:Bool)(has vals:List Int)(hl:has.length≤9223372036854775807) :
  pcF D t28 [.agg [eL th 1 bQ has,eL tv 1 bQ vals]]=some (bF (eH has vals)):=by
 unfold pcF
 rw[aJ _ _ _ _ (by simp[t28])]
 simp[t28,e91,s91]
 refine l28 th tv has vals 27 _ ?_ ?_ hl lQ [] 0 _ _ rfl (by simp) ?_ ?_ ?_ ?_ ?_ (Ext.refl ?_ ?_)<;>simp[lQ]
 exact .start _ _ _ _
end Go.Dm.Tc
namespace Go.Dm.Tc
end Go.Dm.Tc
namespace Go.Dm.Tc
theorem TM(a b c d:Int):kN ⟨a,b⟩ ⟨c,d⟩=(decide (a<c) || (decide (a=c) && decide (b<d))):=by
 unfold kN
 rw[Bool.eq_iff_iff]
 simp[fZ]
theorem s94(a b c d:Int):pcF D t94 [.agg [.int .i64 a,.int .i64 b],.agg [.int .i64 c,.int .i64 d]]=some (.bool (kN ⟨a,b⟩ ⟨c,d⟩)):=by
 unfold pcF
 rw[aJ _ _ _ _ (by simp[t94])]
 rw[TM]
 by_cases h1:a<c
 ·simp[t94,h1]
 ·by_cases h2:a=c
  ·subst h2
   simp[t94]
  ·simp[t94,h1,h2]
theorem l127(h0:aA)(c s:Int)(t:Bool)(l:List bC)(hl:l.length≤1000000)(g1:h0.get 1=some (.arr 40 2 [.agg [.int .i64 c,.int .i64 s]] (some 1)))(aM:h0.lim=0) :
  ∀(rest:List bC) (i:Nat) (f:cY) (h:aA),l.drop i=rest→f 3=.ptr 1 2 0 0→f 8=eL t 4 aG l→f 9=.int .i64 l.length→f 10=.int .i64 i→Ext 2 h0 h →
  dC (fin [.t 4] (run D 21 [.block 0,.seq J5] (.loop Re) f h))=some (.int .i64 (gY ((rest.findIdx? fun a=>a.id=⟨c,s⟩).map (·+i)))):=by
 intro rest
 induction rest with
 | nil =>
  intro i f h hd h3 h8 h9 iA hx
  have hi:=bR hd
  have:¬(i<l.length):=by omega
  rw[aC Re.eq_1]
  simp[J5,h9,iA,this,gY]
 | cons e rest ih =>
  intro i f h hd h3 h8 h9 iA hx
  obtain⟨hi,he,fI⟩:=cB hd
  have Pb:=(hx.get 1 (by decide)).trans g1
  have hn:1≠h.n:=by have:=hx.le;omega
  have tB:h.lim=0:=hx.lim.trans aM
  rw[aC Re.eq_1]
  by_cases ht:e.id=⟨c,s⟩
  ·simp[h3,h8,h9,iA,hi,he,hn,Pb,aG,tB,ht,List.findIdx?_cons,gY]
  ·have IP:=uI ht
   simp only at IP
   simp[h3,h8,h9,iA,hi,he,hn,Pb,aG,tB,IP]
   rw[aX (by omega) (by omega)]
   refine(ih (i+1) _ _ fI ?_ ?_ ?_ ?_ hx.push).trans ?_<;>simp[h3,h8,h9,List.findIdx?_cons,ht,aG]
   congr 2
   funext q
   simp
   omega
theorem Cm(x0 x1 x3 x4 x5:DV)(t:Bool)(l:List bC)(c s:Int)(hl:l.length≤1000000) :
  pcF D Wc [.agg [x0,x1,eL t 4 aG l,x3,x4,x5],.agg [.int .i64 c,.int .i64 s]]=some (.int .i64 (gY (l.findIdx? fun a=>a.id=⟨c,s⟩))):=by
 unfold pcF
 rw[aJ _ _ _ _ (by simp[Wc])]
 simp[Wc]
 refine(l127 _ c s t l hl ?_ ?_ l 0 _ _ rfl ?_ ?_ ?_ ?_ (Ext.refl ?_ ?_)).trans ?_<;>simp
theorem l150(h0:aA)(c s:Int)(t:Bool)(l:List ID)(hl:l.length≤1000000)(g1:h0.get 1=some (.arr 40 2 [.agg [.int .i64 c,.int .i64 s]] (some 1)))(aM:h0.lim=0) :
  ∀(rest:List ID) (i:Nat) (f:cY) (h:aA),l.drop i=rest→f 3=.ptr 1 2 0 0→f 8=eL t 2 eID l→f 9=.int .i64 l.length→f 10=.int .i64 i→Ext 2 h0 h →
  dC (fin [.t 4] (run D 18 [.block 0,.seq I9] (.loop Qt) f h))=some (.bool (decide (⟨c,s⟩∈rest))):=by
 intro rest
 induction rest with
 | nil =>
  intro i f h hd h3 h8 h9 iA hx
  have hi:=bR hd
  have:¬(i<l.length):=by omega
  rw[aC Qt.eq_1]
  simp[I9,h9,iA,this]
 | cons e rest ih =>
  intro i f h hd h3 h8 h9 iA hx
  obtain⟨hi,he,fI⟩:=cB hd
  have Pb:=(hx.get 1 (by decide)).trans g1
  have hn:1≠h.n:=by have:=hx.le;omega
  have tB:h.lim=0:=hx.lim.trans aM
  rw[aC Qt.eq_1]
  by_cases ht:e=⟨c,s⟩
  ·simp[h3,h8,h9,iA,hi,he,hn,Pb,eID,tB,ht]
  ·have IP:=uI ht
   have ht2:¬(⟨c,s⟩:ID)=e:=fun q=>ht q.symm
   simp only at IP
   simp[h3,h8,h9,iA,hi,he,hn,Pb,eID,tB,IP]
   rw[aX (by omega) (by omega)]
   refine(ih (i+1) _ _ fI ?_ ?_ ?_ ?_ hx.push).trans ?_<;>simp[h3,h8,h9,ht2,eID]
theorem s150(x0 x1 x2 x4 x5:DV)(t:Bool)(l:List ID)(c s:Int)(hl:l.length≤1000000) :
  pcF D DI [.agg [x0,x1,x2,eL t 2 eID l,x4,x5],.agg [.int .i64 c,.int .i64 s]]=some (.bool (decide (⟨c,s⟩∈l))):=by
 unfold pcF
 rw[aJ _ _ _ _ (by simp[DI])]
 simp[DI]
 refine(l150 _ c s t l hl ?_ ?_ l 0 _ _ rfl ?_ ?_ ?_ ?_ (Ext.refl ?_ ?_)).trans ?_<;>simp
theorem Cs{α:Type}(cm:α→Int){l:List α}{i:Nat}{a:α}(iG:i≤aU cm l)(ha:l[i]?=some a):(cm a<0→i+1≤aU cm l)∧(¬cm a<0→aU cm l=i):=by
 have hi:i<l.length:=by
  by_cases h:i<l.length
  ·exact h
  ·rw[List.getElem?_eq_none (by omega)]at ha;cases ha
 have hb:∀q (hq:q<i),cm (l[q]'(by omega))<0:=fun q hq=>by
  have:=List.not_of_lt_findIdx (p:=fun x=>!decide (cm x<0)) (Nat.lt_of_lt_of_le hq iG)
  simpa using this
 have qW:l[i]=a:=by rw[List.getElem?_eq_getElem hi]at ha;injection ha
 constructor
 ·intro hc
  rcases Nat.lt_or_eq_of_le iG with h|h
  ·exact h
  ·exfalso
   have hk:aU cm l<l.length:=by omega
   have:=List.findIdx_getElem (p:=fun x=>!decide (cm x<0)) (w:=hk)
   have h2:¬cm l[aU cm l]<0:=by
    unfold aU
    simpa using this
   simp only[←h]at h2
   exact h2 (by rw[qW];exact hc)
 ·intro hc
  exact pL (Nat.le_of_lt hi) hb (fun _=>by rw[qW];exact hc)
end Go.Dm.Tc
