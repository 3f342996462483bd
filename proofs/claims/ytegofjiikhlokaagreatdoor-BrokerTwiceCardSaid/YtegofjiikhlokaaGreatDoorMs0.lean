/- A part of the proof. -/
import Derived.Test.YtegofjiikhlokaaGreatDoorTcE
import Derived.Test.YtegofjiikhlokaaGreatDoorMm4
import Derived.Test.YtegofjiikhlokaaGreatDoorMm5
set_option linter.all false
namespace Go.Dm.Tc
def gV:Option Nat→Int
 | some i=>i
 | none=>-1
theorem l139(t:Bool)(xs:List aX)(g:Nat)(cap:List DV)(p:aX→Bool)(hg:∀x∈xs,∀h,fc D g ([aD x]++cap) h=some (.bool (p x),h))(hl:xs.length≤1000000) :
  ∀(rest:List aX) (i:Nat) (f:cT) (h:aA),xs.drop i=rest→f 0=eL t 7 aD xs→f 1=.func g cap→f 7=.int .i64 xs.length→f 8=.int .i64 i →
  cW (fin [.t 4] (run D 19 [.block 0,.seq E9] (.loop Qg) f h))=some (.int .i64 (gV ((rest.findIdx? p).map (·+i)))):=by
 intro rest
 induction rest with
 | nil =>
  intro i f h hd h0 h1 h7 h8
  have hi:=bH hd
  have:¬(i<xs.length):=by omega
  rw[aC Qg.eq_1]
  simp[E9,h7,h8,this,gV]
 | cons e rest ih =>
  intro i f h hd h0 h1 h7 h8
  obtain⟨hi,he,eJ⟩:=bR hd
  have sL:=hg e (by rw[←he];exact List.getElem_mem hi)
  simp only[aD,List.cons_append,List.nil_append]at sL
  rw[aC Qg.eq_1]
  cases hp:p e with
  | true=>simp[h0,h1,h7,h8,hi,he,aD,sL,hp,gV,List.findIdx?_cons]
  | false =>
   simp[h0,h1,h7,h8,hi,he,aD,sL,hp]
   rw[aT (by omega) (by omega)]
   refine(ih (i+1) _ h eJ ?_ ?_ ?_ ?_).trans ?_<;>simp[h0,h1,h7,List.findIdx?_cons,hp]
   congr 2
   funext q
   simp
   omega
theorem s139(t:Bool)(xs:List aX)(g:Nat)(cap:List DV)(p:aX→Bool)(hg:∀x∈xs,∀h,fc D g ([aD x]++cap) h=some (.bool (p x),h))(hl:xs.length≤1000000) :
  pcF D CN [eL t 7 aD xs,.func g cap]=some (.int .i64 (gV (xs.findIdx? p))):=by
 unfold pcF
 rw[aJ _ _ _ _ (by simp[CN])]
 simp[CN]
 refine(l139 t xs g cap p hg hl xs 0 _ _ rfl ?_ ?_ ?_ ?_).trans ?_<;>simp
theorem NC{α:Type}(p:α→Bool)(xs:List α):decide (0≤gV (xs.findIdx? p))=xs.any p:=by
 cases h:xs.findIdx? p with
 | none =>
  rw[List.findIdx?_eq_none_iff]at h
  simp only[gV]
  have:xs.any p=false:=by rw[List.any_eq_false];exact fun x hx=>by simp[h x hx]
  rw[this];rfl
 | some i =>
  have:=List.findIdx?_eq_some_iff_getElem.1 h
  obtain⟨hi,hp,_⟩:=this
  have:xs.any p=true:=List.any_eq_true.2 ⟨_,List.getElem_mem hi,hp⟩
  rw[this]
  simp[gV]
theorem s84(t:Bool)(xs:List aX)(g:Nat)(cap:List DV)(p:aX→Bool)(hc:∀x∈cap,jP 20 x)(hg:∀x∈xs,∀h,fc D g ([aD x]++cap) h=some (.bool (p x),h))(hl:xs.length≤1000000) :
  pcF D t84 [eL t 7 aD xs,.func g cap]=some (.bool (xs.any p)):=by
 unfold pcF
 rw[aJ _ _ _ _ (by simp[t84])]
 have hf:∀tg h,resolve tg h 200 (.func g cap)=some (.func g cap):=fun tg h=>FP (k:=20) hc tg h 200 (by decide)
 simp[t84,i9,hf,-Ck,s139 t xs g cap p hg hl]
 have:=NC p xs
 simpa using this
theorem l45(t u:Bool)(xs ys:List Int)(hl:xs.length≤1000000)(lU:xs.length=ys.length) :
  ∀(rest bL:List Int) (i:Nat) (f:cT) (h:aA),xs.drop i=rest→ys.drop i=bL→f 0=eL t 1 bO xs→f 1=eL u 1 bO ys→f 12=.int .i64 xs.length→f 13=.int .i64 i →
  cW (fin [.t 4] (run D 26 [.block 0,.seq JA] (.loop V2) f h))=some (.bool (decide (rest=bL))):=by
 intro rest
 induction rest with
 | nil =>
  intro bL i f h hd lD h0 h1 gE lY
  have hi:=bH hd
  have:¬(i<xs.length):=by omega
  have hr:bL=[]:=by rw[←lD];exact List.drop_eq_nil_of_le (by omega)
  subst hr
  rw[aC V2.eq_1]
  simp[JA,gE,lY,this]
 | cons e rest ih =>
  intro bL i f h hd lD h0 h1 gE lY
  obtain⟨hi,he,eJ⟩:=bR hd
  cases bL with
  | nil=>have:=bH lD;omega
  | cons e' bL =>
   obtain⟨gJ,kL,pO⟩:=bR lD
   rw[aC V2.eq_1]
   by_cases hp:e=e'
   ·subst hp
    simp[h0,h1,gE,lY,hi,gJ,he,kL,bO]
    rw[aT (by omega) (by omega)]
    refine(ih bL (i+1) _ h eJ pO ?_ ?_ ?_ ?_).trans ?_<;>simp[h0,h1,gE,bO]
   ·have qQ:=hp
    first
     | rw[ID.mk.injEq]at qQ
     | (cases e;cases e';simp only[ID.mk.injEq,eQ.mk.injEq,not_and]at qQ)
     | skip
    simp[h0,h1,gE,lY,hi,gJ,he,kL,bO,hp,qQ,-not_and]
    try (split<;>simp_all)
theorem s45(t u:Bool)(xs ys:List Int)(hl:xs.length≤1000000) :
  pcF D t45 [eL t 1 bO xs,eL u 1 bO ys]=some (.bool (decide (xs=ys))):=by
 unfold pcF
 rw[aJ _ _ _ _ (by simp[t45])]
 by_cases lU:xs.length=ys.length
 ·simp[t45,lU]
  refine(l45 t u xs ys hl lU xs ys 0 _ _ rfl rfl ?_ ?_ ?_ ?_).trans ?_<;>simp[lU]
 ·have:xs≠ys:=fun h=>lU (by rw[h])
  have h2:¬((xs.length:Int)=ys.length):=by omega
  simp[t45,h2,this]
theorem l46(t u:Bool)(xs ys:List ID)(hl:xs.length≤1000000)(lU:xs.length=ys.length) :
  ∀(rest bL:List ID) (i:Nat) (f:cT) (h:aA),xs.drop i=rest→ys.drop i=bL→f 0=eL t 2 eID xs→f 1=eL u 2 eID ys→f 12=.int .i64 xs.length→f 13=.int .i64 i →
  cW (fin [.t 4] (run D 26 [.block 0,.seq IZ] (.loop V1) f h))=some (.bool (decide (rest=bL))):=by
 intro rest
 induction rest with
 | nil =>
  intro bL i f h hd lD h0 h1 gE lY
  have hi:=bH hd
  have:¬(i<xs.length):=by omega
  have hr:bL=[]:=by rw[←lD];exact List.drop_eq_nil_of_le (by omega)
  subst hr
  rw[aC V1.eq_1]
  simp[IZ,gE,lY,this]
 | cons e rest ih =>
  intro bL i f h hd lD h0 h1 gE lY
  obtain⟨hi,he,eJ⟩:=bR hd
  cases bL with
  | nil=>have:=bH lD;omega
  | cons e' bL =>
   obtain⟨gJ,kL,pO⟩:=bR lD
   rw[aC V1.eq_1]
   by_cases hp:e=e'
   ·subst hp
    simp[h0,h1,gE,lY,hi,gJ,he,kL,eID]
    rw[aT (by omega) (by omega)]
    refine(ih bL (i+1) _ h eJ pO ?_ ?_ ?_ ?_).trans ?_<;>simp[h0,h1,gE,eID]
   ·have qQ:=hp
    first
     | rw[ID.mk.injEq]at qQ
     | (cases e;cases e';simp only[ID.mk.injEq,eQ.mk.injEq,not_and]at qQ)
     | skip
    simp[h0,h1,gE,lY,hi,gJ,he,kL,eID,hp,qQ,-not_and]
    try (split<;>simp_all)
theorem s46(t u:Bool)(xs ys:List ID)(hl:xs.length≤1000000) :
  pcF D t46 [eL t 2 eID xs,eL u 2 eID ys]=some (.bool (decide (xs=ys))):=by
 unfold pcF
 rw[aJ _ _ _ _ (by simp[t46])]
 by_cases lU:xs.length=ys.length
 ·simp[t46,lU]
  refine(l46 t u xs ys hl lU xs ys 0 _ _ rfl rfl ?_ ?_ ?_ ?_).trans ?_<;>simp[lU]
 ·have:xs≠ys:=fun h=>lU (by rw[h])
  have h2:¬((xs.length:Int)=ys.length):=by omega
  simp[t46,h2,this]
theorem l115(t u:Bool)(xs ys:List eQ)(hl:xs.length≤1000000)(lU:xs.length=ys.length) :
  ∀(rest bL:List eQ) (i:Nat) (f:cT) (h:aA),xs.drop i=rest→ys.drop i=bL→f 0=eL t 5 aO xs→f 1=eL u 5 aO ys→f 12=.int .i64 xs.length→f 13=.int .i64 i →
  cW (fin [.t 4] (run D 26 [.block 0,.seq F5] (.loop Qk) f h))=some (.bool (decide (rest=bL))):=by
 intro rest
 induction rest with
 | nil =>
  intro bL i f h hd lD h0 h1 gE lY
  have hi:=bH hd
  have:¬(i<xs.length):=by omega
  have hr:bL=[]:=by rw[←lD];exact List.drop_eq_nil_of_le (by omega)
  subst hr
  rw[aC Qk.eq_1]
  simp[F5,gE,lY,this]
 | cons e rest ih =>
  intro bL i f h hd lD h0 h1 gE lY
  obtain⟨hi,he,eJ⟩:=bR hd
  cases bL with
  | nil=>have:=bH lD;omega
  | cons e' bL =>
   obtain⟨gJ,kL,pO⟩:=bR lD
   rw[aC Qk.eq_1]
   by_cases hp:e=e'
   ·subst hp
    simp[h0,h1,gE,lY,hi,gJ,he,kL,aO]
    rw[aT (by omega) (by omega)]
    refine(ih bL (i+1) _ h eJ pO ?_ ?_ ?_ ?_).trans ?_<;>simp[h0,h1,gE,aO]
   ·have qQ:=hp
    first
     | rw[ID.mk.injEq]at qQ
     | (cases e;cases e';simp only[ID.mk.injEq,eQ.mk.injEq,not_and]at qQ)
     | skip
    simp[h0,h1,gE,lY,hi,gJ,he,kL,aO,hp,qQ,-not_and]
    try (split<;>simp_all)
theorem s115(t u:Bool)(xs ys:List eQ)(hl:xs.length≤1000000) :
  pcF D F6 [eL t 5 aO xs,eL u 5 aO ys]=some (.bool (decide (xs=ys))):=by
 unfold pcF
 rw[aJ _ _ _ _ (by simp[F6])]
 by_cases lU:xs.length=ys.length
 ·simp[F6,lU]
  refine(l115 t u xs ys hl lU xs ys 0 _ _ rfl rfl ?_ ?_ ?_ ?_).trans ?_<;>simp[lU]
 ·have:xs≠ys:=fun h=>lU (by rw[h])
  have h2:¬((xs.length:Int)=ys.length):=by omega
  simp[F6,h2,this]
end Go.Dm.Tc
/-
What functions of the library compute,part 2: comparisons by a function,rows that rise,searches by halves.
-/
namespace Go.Dm.Tc
def qO{α β:Type}(p:α→β→Bool):List α→List β→Bool
 | [],[]=>true
 | a::r,b::s=>p a b && qO p r s
 | _,_=>false
def mF{α:Type}(p:α→α→Bool):List α→Bool
 | a::b::r=>p a b && mF p (b::r)
 | _=>true
theorem l50(t u:Bool)(xs ys:List aX)(g:Nat)(p:aX→aX→Bool)(hg:∀x∈xs,∀y∈ys,∀h,fc D g [aD x,aD y] h=some (.bool (p x y),h))(hl:xs.length≤1000000)(lU:xs.length=ys.length) :
  ∀(rest bL:List aX) (i:Nat) (f:cT) (h:aA),xs.drop i=rest→ys.drop i=bL→f 1=eL u 7 aD ys→f 2=.func g []→f 15=eL t 7 aD xs→f 16=.int .i64 xs.length→f 17=.int .i64 i→h.lim=0 →
  cW (fin [.t 6] (run D 32 [.block 0,.seq IX] (.loop U9) f h))=some (.bool (qO p rest bL)):=by
 intro rest
 induction rest with
 | nil =>
  intro bL i f h hd lD h1 h2 zC zO Cz sZ
  have hi:=bH hd
  have:¬(i<xs.length):=by omega
  have hr:bL=[]:=by rw[←lD];exact List.drop_eq_nil_of_le (by omega)
  subst hr
  rw[aC U9.eq_1]
  simp[IX,zO,Cz,this,qO]
 | cons e rest ih =>
  intro bL i f h hd lD h1 h2 zC zO Cz sZ
  obtain⟨hi,he,eJ⟩:=bR hd
  cases bL with
  | nil=>have:=bH lD;omega
  | cons e' bL =>
   obtain⟨gJ,kL,pO⟩:=bR lD
   have sL:=hg e (by rw[←he];exact List.getElem_mem hi) e' (by rw[←kL];exact List.getElem_mem gJ)
   simp only[aD]at sL
   rw[aC U9.eq_1]
   cases hp:p e e' with
   | true =>
    simp[h1,h2,zC,zO,Cz,hi,gJ,he,kL,aD,sZ,sL,hp]
    rw[aT (by omega) (by omega)]
    refine(ih bL (i+1) _ _ eJ pO ?_ ?_ ?_ ?_ ?_ ?_).trans ?_<;>simp[h1,h2,zC,zO,sZ,qO,hp]
   | false =>
    simp[h1,h2,zC,zO,Cz,hi,gJ,he,kL,aD,sZ,sL,hp,qO]
theorem s50(t u:Bool)(xs ys:List aX)(g:Nat)(p:aX→aX→Bool)(hg:∀x∈xs,∀y∈ys,∀h,fc D g [aD x,aD y] h=some (.bool (p x y),h))(hl:xs.length≤1000000) :
  pcF D t50 [eL t 7 aD xs,eL u 7 aD ys,.func g []]=some (.bool (qO p xs ys)):=by
 unfold pcF
 rw[aJ _ _ _ _ (by simp[t50])]
 by_cases lU:xs.length=ys.length
 ·simp[t50,lU]
  refine(l50 t u xs ys g p hg hl lU xs ys 0 _ _ rfl rfl ?_ ?_ ?_ ?_ ?_ ?_).trans ?_<;>simp[lU]
 ·have:qO p xs ys=false:=by
   clear hg hl
   induction xs generalizing ys with
   | nil=>cases ys with
    | nil=>simp at lU
    | cons y ys=>rfl
   | cons x xs ih=>cases ys with
    | nil=>rfl
    | cons y ys =>
     simp only[qO]
     rw[ih ys (by simpa using lU)];simp
  have h2:¬((xs.length:Int)=ys.length):=by omega
  simp[t50,h2,this]
theorem l47(t u:Bool)(xs ys:List bG)(g:Nat)(p:bG→bG→Bool)(hg:∀x∈xs,∀y∈ys,∀h,fc D g [aG x,aG y] h=some (.bool (p x y),h))(hl:xs.length≤1000000)(lU:xs.length=ys.length) :
  ∀(rest bL:List bG) (i:Nat) (f:cT) (h:aA),xs.drop i=rest→ys.drop i=bL→f 1=eL u 4 aG ys→f 2=.func g []→f 15=eL t 4 aG xs→f 16=.int .i64 xs.length→f 17=.int .i64 i→h.lim=0 →
  cW (fin [.t 6] (run D 32 [.block 0,.seq IY] (.loop V0) f h))=some (.bool (qO p rest bL)):=by
 intro rest
 induction rest with
 | nil =>
  intro bL i f h hd lD h1 h2 zC zO Cz sZ
  have hi:=bH hd
  have:¬(i<xs.length):=by omega
  have hr:bL=[]:=by rw[←lD];exact List.drop_eq_nil_of_le (by omega)
  subst hr
  rw[aC V0.eq_1]
  simp[IY,zO,Cz,this,qO]
 | cons e rest ih =>
  intro bL i f h hd lD h1 h2 zC zO Cz sZ
  obtain⟨hi,he,eJ⟩:=bR hd
  cases bL with
  | nil=>have:=bH lD;omega
  | cons e' bL =>
   obtain⟨gJ,kL,pO⟩:=bR lD
   have sL:=hg e (by rw[←he];exact List.getElem_mem hi) e' (by rw[←kL];exact List.getElem_mem gJ)
   simp only[aG]at sL
   rw[aC V0.eq_1]
   cases hp:p e e' with
   | true =>
    simp[h1,h2,zC,zO,Cz,hi,gJ,he,kL,aG,sZ,sL,hp]
    rw[aT (by omega) (by omega)]
    refine(ih bL (i+1) _ _ eJ pO ?_ ?_ ?_ ?_ ?_ ?_).trans ?_<;>simp[h1,h2,zC,zO,sZ,qO,hp]
   | false =>
    simp[h1,h2,zC,zO,Cz,hi,gJ,he,kL,aG,sZ,sL,hp,qO]
theorem s47(t u:Bool)(xs ys:List bG)(g:Nat)(p:bG→bG→Bool)(hg:∀x∈xs,∀y∈ys,∀h,fc D g [aG x,aG y] h=some (.bool (p x y),h))(hl:xs.length≤1000000) :
  pcF D t47 [eL t 4 aG xs,eL u 4 aG ys,.func g []]=some (.bool (qO p xs ys)):=by
 unfold pcF
 rw[aJ _ _ _ _ (by simp[t47])]
 by_cases lU:xs.length=ys.length
 ·simp[t47,lU]
  refine(l47 t u xs ys g p hg hl lU xs ys 0 _ _ rfl rfl ?_ ?_ ?_ ?_ ?_ ?_).trans ?_<;>simp[lU]
 ·have:qO p xs ys=false:=by
   clear hg hl
   induction xs generalizing ys with
   | nil=>cases ys with
    | nil=>simp at lU
    | cons y ys=>rfl
   | cons x xs ih=>cases ys with
    | nil=>rfl
    | cons y ys =>
     simp only[qO]
     rw[ih ys (by simpa using lU)];simp
  have h2:¬((xs.length:Int)=ys.length):=by omega
  simp[t47,h2,this]
theorem l52(t u:Bool)(xs ys:List fT)(g:Nat)(p:fT→fT→Bool)(hg:∀x∈xs,∀y∈ys,∀h,fc D g [cP x,cP y] h=some (.bool (p x y),h))(hl:xs.length≤1000000)(lU:xs.length=ys.length) :
  ∀(rest bL:List fT) (i:Nat) (f:cT) (h:aA),xs.drop i=rest→ys.drop i=bL→f 1=eL u 3 cP ys→f 2=.func g []→f 15=eL t 3 cP xs→f 16=.int .i64 xs.length→f 17=.int .i64 i→h.lim=0 →
  cW (fin [.t 6] (run D 32 [.block 0,.seq IW] (.loop U8) f h))=some (.bool (qO p rest bL)):=by
 intro rest
 induction rest with
 | nil =>
  intro bL i f h hd lD h1 h2 zC zO Cz sZ
  have hi:=bH hd
  have:¬(i<xs.length):=by omega
  have hr:bL=[]:=by rw[←lD];exact List.drop_eq_nil_of_le (by omega)
  subst hr
  rw[aC U8.eq_1]
  simp[IW,zO,Cz,this,qO]
 | cons e rest ih =>
  intro bL i f h hd lD h1 h2 zC zO Cz sZ
  obtain⟨hi,he,eJ⟩:=bR hd
  cases bL with
  | nil=>have:=bH lD;omega
  | cons e' bL =>
   obtain⟨gJ,kL,pO⟩:=bR lD
   have sL:=hg e (by rw[←he];exact List.getElem_mem hi) e' (by rw[←kL];exact List.getElem_mem gJ)
   simp only[cP]at sL
   rw[aC U8.eq_1]
   cases hp:p e e' with
   | true =>
    simp[h1,h2,zC,zO,Cz,hi,gJ,he,kL,cP,sZ,sL,hp]
    rw[aT (by omega) (by omega)]
    refine(ih bL (i+1) _ _ eJ pO ?_ ?_ ?_ ?_ ?_ ?_).trans ?_<;>simp[h1,h2,zC,zO,sZ,qO,hp]
   | false =>
    simp[h1,h2,zC,zO,Cz,hi,gJ,he,kL,cP,sZ,sL,hp,qO]
theorem s52(t u:Bool)(xs ys:List fT)(g:Nat)(p:fT→fT→Bool)(hg:∀x∈xs,∀y∈ys,∀h,fc D g [cP x,cP y] h=some (.bool (p x y),h))(hl:xs.length≤1000000) :
  pcF D t52 [eL t 3 cP xs,eL u 3 cP ys,.func g []]=some (.bool (qO p xs ys)):=by
 unfold pcF
 rw[aJ _ _ _ _ (by simp[t52])]
 by_cases lU:xs.length=ys.length
 ·simp[t52,lU]
  refine(l52 t u xs ys g p hg hl lU xs ys 0 _ _ rfl rfl ?_ ?_ ?_ ?_ ?_ ?_).trans ?_<;>simp[lU]
 ·have:qO p xs ys=false:=by
   clear hg hl
   induction xs generalizing ys with
   | nil=>cases ys with
    | nil=>simp at lU
    | cons y ys=>rfl
   | cons x xs ih=>cases ys with
    | nil=>rfl
    | cons y ys =>
     simp only[qO]
     rw[ih ys (by simpa using lU)];simp
  have h2:¬((xs.length:Int)=ys.length):=by omega
  simp[t52,h2,this]
end Go.Dm.Tc
/-
What functions of the library compute,part 3: the search by halves.
-/
namespace Go.Dm.Tc
def aV{α:Type}(cm:α→Int)(xs:List α):Nat:=xs.findIdx fun x=>!decide (cm x<0)
def eZ{α:Type}(cm:α→Int)(xs:List α):Bool:=match xs[aV cm xs]? with|some x=>decide (cm x=0)|none=>false
theorem cZ{α:Type}(cm:α→Int)(xs:List α):aV cm xs≤xs.length:=List.findIdx_le_length
theorem pK{α:Type}{cm:α→Int}{xs:List α}{k:Nat}(hk:k≤xs.length)(h1:∀q (hq:q<k),cm (xs[q]'(by omega))<0)(h2:∀(hq:k<xs.length),¬cm xs[k]<0):aV cm xs=k:=by
 unfold aV
 rcases Nat.lt_or_eq_of_le hk with bC|rfl
 ·rw[List.findIdx_eq bC]
  refine⟨by simpa using h2 bC,fun j hj=>by simpa using h1 j hj⟩
 ·rw[List.findIdx_eq_length]
  intro x hx
  obtain⟨i,hi,rfl⟩:=List.mem_iff_getElem.1 hx
  simpa using h1 i hi
theorem l178(t:Bool)(xs:List ID)(c s:Int)(g:Nat)(cap:List DV)(cm:ID→Int)(hg:∀x∈xs,∀h,fc D g ([eID x,.agg [.int .i64 c,.int .i64 s]]++cap) h=some (.int .i64 (cm x),h))(hl:xs.length≤1000000)
  (hm:∀i j (hi:i<xs.length) (hj:j<xs.length),i≤j→cm xs[j]<0→cm xs[i]<0) (h:aA) (cp:Option Nat) (Ng:h.get 0=some (.arr 40 2 [.agg [.int .i64 c,.int .i64 s]] cp)) :
  ∀(n i j:Nat) (f:cT),j-i=n→i≤j→j≤xs.length→f 0=eL t 2 eID xs→f 2=.func g cap→f 4=.ptr 0 2 0 0→f 8=.int .i64 xs.length→f 9=.int .i64 i→f 10=.int .i64 j →
  (∀q (hq:q<i),(uH:q<xs.length)→cm xs[q]<0)→(∀q (hq:q<xs.length),j≤q→¬cm xs[q]<0) →
  cW (fin [.t 6,.t 7] (run D 49 [.block 0,.seq Pp] (.loop D6) f h))=some (.tup [.int .i64 (aV cm xs),.bool (eZ cm xs)]):=by
 intro n
 induction n using Nat.strongRecOn with
 | ind n ih =>
  intro i j f hn SY hj h0 h2 h4 h8 h9 hY hJ nN
  rw[aC D6.eq_1]
  by_cases bC:i<j
  ·have hk:(i+j) / 2<xs.length:=by omega
   have Sx:xs[(i+j) / 2]?=some xs[(i+j) / 2]:=List.getElem?_eq_getElem hk
   have sL:=hg xs[(i+j) / 2] (List.getElem_mem hk)
   simp only[eID,List.cons_append,List.nil_append]at sL
   have w1:IntKind.i64.wrap ((i:Int)+j)=((i:Int)+j):=aT (by omega) (by omega)
   have w2:IntKind.u64.wrap ((i:Int)+j)=((i:Int)+j):=Bu (by omega) (by omega)
   have w3:IntKind.i64.wrap (((i+j) / 2:Nat):Int)=((i+j) / 2:Nat):=aT (by omega) (by omega)
   have w4:IntKind.i64.wrap ((((i+j) / 2:Nat):Int)+1)=((((i+j) / 2:Nat):Int)+1):=aT (by omega) (by omega)
   by_cases hc:cm xs[(i+j) / 2]<0
   ·simp[h0,h2,h4,h8,h9,hY,bC,hk,Sx,Ng,sL,eID,w1,w2,w3,w4,hc,-Int.natCast_ediv]
    refine ih (j-((i+j) / 2+1)) (by omega) ((i+j) / 2+1) j _ rfl (by omega) hj ?_ ?_ ?_ ?_ ?_ ?_ ?_ nN<;>try simp[h0,h2,h4,h8,hY,eID]
    intro q hq uH
    exact hm q ((i+j) / 2) uH hk (by omega) hc
   ·simp[h0,h2,h4,h8,h9,hY,bC,hk,Sx,Ng,sL,eID,w1,w2,w3,w4,hc,-Int.natCast_ediv]
    refine ih ((i+j) / 2-i) (by omega) i ((i+j) / 2) _ rfl (by omega) (by omega) ?_ ?_ ?_ ?_ ?_ ?_ hJ ?_<;>simp[h0,h2,h4,h8,h9,eID]
    intro q hq uH
    exact Int.not_lt.1 fun hx=>hc (hm ((i+j) / 2) q hk hq uH hx)
  ·have P3:i=j:=by omega
   subst P3
   have dS:aV cm xs=i:=pK hj (fun q hq=>hJ q hq (by omega)) (fun hq=>nN i hq (Nat.le_refl i))
   by_cases hi:i<xs.length
   ·have sL:=hg xs[i] (List.getElem_mem hi)
    simp only[eID,List.cons_append,List.nil_append]at sL
    have Sx:xs[i]?=some xs[i]:=List.getElem?_eq_getElem hi
    simp[Pp,h0,h2,h4,h8,h9,hY,hi,Sx,Ng,sL,eID,dS,eZ,aI]
    rfl
   ·simp[Pp,h0,h2,h4,h8,h9,hY,hi,dS,eZ,aI]
theorem s178(t:Bool)(xs:List ID)(c s:Int)(g:Nat)(cap:List DV)(cm:ID→Int)(hg:∀x∈xs,∀h,fc D g ([eID x,.agg [.int .i64 c,.int .i64 s]]++cap) h=some (.int .i64 (cm x),h))(hl:xs.length≤1000000)
  (hm:∀i j (hi:i<xs.length) (hj:j<xs.length),i≤j→cm xs[j]<0→cm xs[i]<0) :
  pcF D BX [eL t 2 eID xs,.agg [.int .i64 c,.int .i64 s],.func g cap]=some (.tup [.int .i64 (aV cm xs),.bool (eZ cm xs)]):=by
 unfold pcF
 rw[aJ _ _ _ _ (by simp[BX])]
 simp[BX]
 refine l178 t xs c s g cap cm hg hl hm _ (some 1) (by simp) xs.length 0 xs.length _ (by omega) (by omega) (by omega) ?_ ?_ ?_ ?_ ?_ ?_ ?_ ?_<;>simp
 intro q hq uH
 omega
theorem l180(t:Bool)(xs:List bG)(c s:Int)(g:Nat)(cap:List DV)(cm:bG→Int)(hg:∀x∈xs,∀h,fc D g ([aG x,.agg [.int .i64 c,.int .i64 s]]++cap) h=some (.int .i64 (cm x),h))(hl:xs.length≤1000000)
  (hm:∀i j (hi:i<xs.length) (hj:j<xs.length),i≤j→cm xs[j]<0→cm xs[i]<0) (h:aA) (cp:Option Nat) (Ng:h.get 0=some (.arr 40 2 [.agg [.int .i64 c,.int .i64 s]] cp)) :
  ∀(n i j:Nat) (f:cT),j-i=n→i≤j→j≤xs.length→f 0=eL t 4 aG xs→f 2=.func g cap→f 4=.ptr 0 2 0 0→f 8=.int .i64 xs.length→f 9=.int .i64 i→f 10=.int .i64 j →
  (∀q (hq:q<i),(uH:q<xs.length)→cm xs[q]<0)→(∀q (hq:q<xs.length),j≤q→¬cm xs[q]<0) →
  cW (fin [.t 6,.t 7] (run D 49 [.block 0,.seq Po] (.loop D5) f h))=some (.tup [.int .i64 (aV cm xs),.bool (eZ cm xs)]):=by
 intro n
 induction n using Nat.strongRecOn with
 | ind n ih =>
  intro i j f hn SY hj h0 h2 h4 h8 h9 hY hJ nN
  rw[aC D5.eq_1]
  by_cases bC:i<j
  ·have hk:(i+j) / 2<xs.length:=by omega
   have Sx:xs[(i+j) / 2]?=some xs[(i+j) / 2]:=List.getElem?_eq_getElem hk
   have sL:=hg xs[(i+j) / 2] (List.getElem_mem hk)
   simp only[aG,List.cons_append,List.nil_append]at sL
   have w1:IntKind.i64.wrap ((i:Int)+j)=((i:Int)+j):=aT (by omega) (by omega)
   have w2:IntKind.u64.wrap ((i:Int)+j)=((i:Int)+j):=Bu (by omega) (by omega)
   have w3:IntKind.i64.wrap (((i+j) / 2:Nat):Int)=((i+j) / 2:Nat):=aT (by omega) (by omega)
   have w4:IntKind.i64.wrap ((((i+j) / 2:Nat):Int)+1)=((((i+j) / 2:Nat):Int)+1):=aT (by omega) (by omega)
   by_cases hc:cm xs[(i+j) / 2]<0
   ·simp[h0,h2,h4,h8,h9,hY,bC,hk,Sx,Ng,sL,aG,w1,w2,w3,w4,hc,-Int.natCast_ediv]
    refine ih (j-((i+j) / 2+1)) (by omega) ((i+j) / 2+1) j _ rfl (by omega) hj ?_ ?_ ?_ ?_ ?_ ?_ ?_ nN<;>try simp[h0,h2,h4,h8,hY,aG]
    intro q hq uH
    exact hm q ((i+j) / 2) uH hk (by omega) hc
   ·simp[h0,h2,h4,h8,h9,hY,bC,hk,Sx,Ng,sL,aG,w1,w2,w3,w4,hc,-Int.natCast_ediv]
    refine ih ((i+j) / 2-i) (by omega) i ((i+j) / 2) _ rfl (by omega) (by omega) ?_ ?_ ?_ ?_ ?_ ?_ hJ ?_<;>simp[h0,h2,h4,h8,h9,aG]
    intro q hq uH
    exact Int.not_lt.1 fun hx=>hc (hm ((i+j) / 2) q hk hq uH hx)
  ·have P3:i=j:=by omega
   subst P3
   have dS:aV cm xs=i:=pK hj (fun q hq=>hJ q hq (by omega)) (fun hq=>nN i hq (Nat.le_refl i))
   by_cases hi:i<xs.length
   ·have sL:=hg xs[i] (List.getElem_mem hi)
    simp only[aG,List.cons_append,List.nil_append]at sL
    have Sx:xs[i]?=some xs[i]:=List.getElem?_eq_getElem hi
    simp[Po,h0,h2,h4,h8,h9,hY,hi,Sx,Ng,sL,aG,dS,eZ,aI]
    rfl
   ·simp[Po,h0,h2,h4,h8,h9,hY,hi,dS,eZ,aI]
theorem s180(t:Bool)(xs:List bG)(c s:Int)(g:Nat)(cap:List DV)(cm:bG→Int)(hg:∀x∈xs,∀h,fc D g ([aG x,.agg [.int .i64 c,.int .i64 s]]++cap) h=some (.int .i64 (cm x),h))(hl:xs.length≤1000000)
  (hm:∀i j (hi:i<xs.length) (hj:j<xs.length),i≤j→cm xs[j]<0→cm xs[i]<0) :
  pcF D BW [eL t 4 aG xs,.agg [.int .i64 c,.int .i64 s],.func g cap]=some (.tup [.int .i64 (aV cm xs),.bool (eZ cm xs)]):=by
 unfold pcF
 rw[aJ _ _ _ _ (by simp[BW])]
 simp[BW]
 refine l180 t xs c s g cap cm hg hl hm _ (some 1) (by simp) xs.length 0 xs.length _ (by omega) (by omega) (by omega) ?_ ?_ ?_ ?_ ?_ ?_ ?_ ?_<;>simp
 intro q hq uH
 omega
theorem l194(t:Bool)(xs:List aX)(c s:Int)(g:Nat)(cap:List DV)(cm:aX→Int)(hg:∀x∈xs,∀h,fc D g ([aD x,.agg [.int .i64 c,.int .i64 s]]++cap) h=some (.int .i64 (cm x),h))(hl:xs.length≤1000000)
  (hm:∀i j (hi:i<xs.length) (hj:j<xs.length),i≤j→cm xs[j]<0→cm xs[i]<0) (h:aA) (cp:Option Nat) (Ng:h.get 0=some (.arr 40 2 [.agg [.int .i64 c,.int .i64 s]] cp)) :
  ∀(n i j:Nat) (f:cT),j-i=n→i≤j→j≤xs.length→f 0=eL t 7 aD xs→f 2=.func g cap→f 4=.ptr 0 2 0 0→f 8=.int .i64 xs.length→f 9=.int .i64 i→f 10=.int .i64 j →
  (∀q (hq:q<i),(uH:q<xs.length)→cm xs[q]<0)→(∀q (hq:q<xs.length),j≤q→¬cm xs[q]<0) →
  cW (fin [.t 6,.t 7] (run D 49 [.block 0,.seq Pi] (.loop D0) f h))=some (.tup [.int .i64 (aV cm xs),.bool (eZ cm xs)]):=by
 intro n
 induction n using Nat.strongRecOn with
 | ind n ih =>
  intro i j f hn SY hj h0 h2 h4 h8 h9 hY hJ nN
  rw[aC D0.eq_1]
  by_cases bC:i<j
  ·have hk:(i+j) / 2<xs.length:=by omega
   have Sx:xs[(i+j) / 2]?=some xs[(i+j) / 2]:=List.getElem?_eq_getElem hk
   have sL:=hg xs[(i+j) / 2] (List.getElem_mem hk)
   simp only[aD,List.cons_append,List.nil_append]at sL
   have w1:IntKind.i64.wrap ((i:Int)+j)=((i:Int)+j):=aT (by omega) (by omega)
   have w2:IntKind.u64.wrap ((i:Int)+j)=((i:Int)+j):=Bu (by omega) (by omega)
   have w3:IntKind.i64.wrap (((i+j) / 2:Nat):Int)=((i+j) / 2:Nat):=aT (by omega) (by omega)
   have w4:IntKind.i64.wrap ((((i+j) / 2:Nat):Int)+1)=((((i+j) / 2:Nat):Int)+1):=aT (by omega) (by omega)
   by_cases hc:cm xs[(i+j) / 2]<0
   ·simp[h0,h2,h4,h8,h9,hY,bC,hk,Sx,Ng,sL,aD,w1,w2,w3,w4,hc,-Int.natCast_ediv]
    refine ih (j-((i+j) / 2+1)) (by omega) ((i+j) / 2+1) j _ rfl (by omega) hj ?_ ?_ ?_ ?_ ?_ ?_ ?_ nN<;>try simp[h0,h2,h4,h8,hY,aD]
    intro q hq uH
    exact hm q ((i+j) / 2) uH hk (by omega) hc
   ·simp[h0,h2,h4,h8,h9,hY,bC,hk,Sx,Ng,sL,aD,w1,w2,w3,w4,hc,-Int.natCast_ediv]
    refine ih ((i+j) / 2-i) (by omega) i ((i+j) / 2) _ rfl (by omega) (by omega) ?_ ?_ ?_ ?_ ?_ ?_ hJ ?_<;>simp[h0,h2,h4,h8,h9,aD]
    intro q hq uH
    exact Int.not_lt.1 fun hx=>hc (hm ((i+j) / 2) q hk hq uH hx)
  ·have P3:i=j:=by omega
   subst P3
   have dS:aV cm xs=i:=pK hj (fun q hq=>hJ q hq (by omega)) (fun hq=>nN i hq (Nat.le_refl i))
   by_cases hi:i<xs.length
   ·have sL:=hg xs[i] (List.getElem_mem hi)
    simp only[aD,List.cons_append,List.nil_append]at sL
    have Sx:xs[i]?=some xs[i]:=List.getElem?_eq_getElem hi
    simp[Pi,h0,h2,h4,h8,h9,hY,hi,Sx,Ng,sL,aD,dS,eZ,aI]
    rfl
   ·simp[Pi,h0,h2,h4,h8,h9,hY,hi,dS,eZ,aI]
theorem s194(t:Bool)(xs:List aX)(c s:Int)(g:Nat)(cap:List DV)(cm:aX→Int)(hg:∀x∈xs,∀h,fc D g ([aD x,.agg [.int .i64 c,.int .i64 s]]++cap) h=some (.int .i64 (cm x),h))(hl:xs.length≤1000000)
  (hm:∀i j (hi:i<xs.length) (hj:j<xs.length),i≤j→cm xs[j]<0→cm xs[i]<0) :
  pcF D BS [eL t 7 aD xs,.agg [.int .i64 c,.int .i64 s],.func g cap]=some (.tup [.int .i64 (aV cm xs),.bool (eZ cm xs)]):=by
 unfold pcF
 rw[aJ _ _ _ _ (by simp[BS])]
 simp[BS]
 refine l194 t xs c s g cap cm hg hl hm _ (some 1) (by simp) xs.length 0 xs.length _ (by omega) (by omega) (by omega) ?_ ?_ ?_ ?_ ?_ ?_ ?_ ?_<;>simp
 intro q hq uH
 omega
end Go.Dm.Tc
/-
What functions of the library compute,part 4: an element put into a row of the call's own.
-/
namespace Go.Dm.Tc
theorem a152(H:aA)(n0:Nat)(xs:List bG)(i:Nat)(x:bG)(jH vety:Nat)(vcap:Option Nat)(g0:H.get n0=some (.arr 93 4 (xs.map aG++[.unk]) none))(gv:H.get jH=some (.arr vety 4 [aG x] vcap))(hi:i≤xs.length)(hl:xs.length≤1000000)(wf:WF H)(aL:H.lim≤n0)(eG:jH≠n0) :
  ∃ H',iT (ev D) Ad [.sl n0 4 0 xs.length,.int .i64 i,.sl jH 4 0 1] H=some (.sl n0 4 0 (xs.length+1),H')∧H'.get n0=some (.arr 93 4 ((xs.take i++x::xs.drop i).map aG) none):=by
 have bC:=bB g0
 have w1:IntKind.i64.wrap ((xs.length:Int)+1)=(xs.length:Int)+1:=aT (by omega) (by omega)
 rw[aJ _ _ _ _ (by simp[Ad])]
 by_cases rX:i=xs.length
 ·subst rX
  simp[Ad,g0,gv]
  rw[kO g0 (by simp) aL (by simp;omega) (by decide) (by simp)]
  simp[bY wf bC,dD]
 ·have At:¬((i:Int)=xs.length):=by omega
  have w2:IntKind.i64.wrap ((i:Int)+1)=(i:Int)+1:=aT (by omega) (by omega)
  have lO:i+1≤xs.length+1:=by omega
  have NJ:i+1+(xs.length-i)≤xs.length+1:=by omega
  have SZ:i+(xs.length+1-i)≤xs.length+1:=by omega
  have ZU:i≤xs.length+1:=by omega
  have hx:i<(xs.map aG).length:=by simp;omega
  have e1:=yM (xs.map aG) .unk i hx
  have e2:=Hm (xs.map aG) (aG x) i hx
  have UZ:xs.length+1≤min (i+1) xs.length+(xs.length-i):=by omega
  have ZT:i+1≤min (i+1) xs.length+(xs.length-i):=by omega
  simp only[List.length_map]at e1 e2
  simp[Ad,g0,gv,At,hi,w1,w2,e1,e2,UZ,ZT,lO,NJ,SZ,ZU,e188,eA,eG,aL,bC,bY wf,bY wf.set]
  have e3:List.take (xs.length+1-i) [aG x]=[aG x]:=List.take_of_length_le (by simp;omega)
  rw[e3,e2]
theorem b152(H:aA)(n0:Nat)(xs:List bG)(i:Nat)(x:bG)(jH vety:Nat)(vcap:Option Nat)(g0:H.get n0=some (.arr 93 4 (xs.map aG) (some xs.length)))(gv:H.get jH=some (.arr vety 4 [aG x] vcap))(hi:i≤xs.length)(hl:xs.length≤1000000)(wf:WF H)(aL:H.lim≤n0)(eG:jH≠n0) :
  ∃ H',iT (ev D) Ad [.sl n0 4 0 xs.length,.int .i64 i,.sl jH 4 0 1] H=some (.sl H.n 4 0 (xs.length+1),H')∧H'.get H.n=some (.arr 93 4 ((xs.take i++x::xs.drop i).map aG) none):=by
 have bC:=bB g0
 have Sp:=bB gv
 have w1:IntKind.i64.wrap ((xs.length:Int)+1)=(xs.length:Int)+1:=aT (by omega) (by omega)
 rw[aJ _ _ _ _ (by simp[Ad])]
 by_cases rX:i=xs.length
 ·subst rX
  simp[Ad,g0,gv]
  rw[gZ g0 (by simp) (by simp) (by simp;omega) (by decide) (by simp)]
  simp
  rw[List.take_of_length_le (by simp)]
 ·have At:¬((i:Int)=xs.length):=by omega
  have w2:IntKind.i64.wrap ((i:Int)+1)=(i:Int)+1:=aT (by omega) (by omega)
  have w3:IntKind.i64.wrap ((xs.length:Int)+1-i)=((xs.length+1-i:Nat):Int):=by rw[aT (by omega) (by omega)];omega
  have hx:i<(xs.map aG).length:=by simp;omega
  have hq:(xs.length:Int)<(xs.length:Int)+1:=by omega
  have Dv:H.lim≤H.n:=by omega
  have hz:((xs.length+1-i:Nat):Int)≤140737488355328:=by omega
  have e1:=fun z=>Cp (xs.map aG) z (aG x) i hx
  have e2:=fun z=>Co (xs.map aG) z (aG x) i hx
  have e3:i+(xs.length+1-i)=xs.length+1:=by omega
  have e4:i+(xs.length-i+1)=xs.length+1:=by omega
  have e5:i+1≤xs.length+1:=by omega
  have e6:i+1+(xs.length-i)≤xs.length+1:=by omega
  have e7:i≤xs.length+1:=by omega
  have e8:List.take (xs.length+1-i) [aG x]=[aG x]:=List.take_of_length_le (by simp;omega)
  have e9:List.take (xs.length-i) (List.drop i (List.map aG xs))=List.drop i (List.map aG xs):=List.take_of_length_le (by simp)
  simp only[List.length_map]at e1 e2
  simp[Ad,g0,gv,At,hi,w1,w2,w3,hq,hz]
  rw[gZ g0 (by simp;omega) (by simp;omega) (by simp;omega) (by decide) (by simp;omega)]
  simp[g0,gv,w2,hi,bC,Sp,aL,Dv,e3,e4,e5,e6,e7,e1,e2,e8,e9,Nat.ne_of_lt bC,Nat.ne_of_lt Sp,Nat.min_eq_left hi]
theorem s152(lo:Nat)(h:aA)(v:DV)(xs:List bG)(i:Nat)(x:bG)(jH vety c:Nat)(ho:Own lo h v 93 4 (xs.map aG))(gv:h.get jH=some (.arr vety 4 [aG x] (some c)))(hi:i≤xs.length)(hl:xs.length≤1000000)(wf:WF h)(dS:lo≤h.n)(aL:h.lim≤h.n) :
  ∃ v' h',fc D 152 [v,.int .i64 i,.sl jH 4 0 1] h=some (v',h')∧Own lo h' v' 93 4 ((xs.take i++x::xs.drop i).map aG)∧Ext lo h h'∧iF 93 h h':=by
 have Sp:=bB gv
 rw[e152]
 cases ho with
 | nil hv hx =>
  subst hv
  have Ao:xs=[]:=List.map_eq_nil_iff.1 hx
  subst Ao
  have rY:i=0:=by simpa using hi
  subst rY
  refine⟨.sl h.n 4 0 1,h.push (.arr 93 4 [aG x] none),?_,.arr h.n rfl cR aL dS,(Ext.refl dS wf).push,(iF.refl _ _).push⟩
  simp only[dU,Ad]
  rw[aJ _ _ _ _ (by simp)]
  simp[gv,iH,aY]
 | arr id hv hg Dx lO =>
  subst hv
  have bC:=bB hg
  have eG:jH≠id:=by intro e;subst e;rw[gv]at hg;simp at hg
  have hw:WF (h.set id .dead):=wf.set
  have gv':∀o l,({(h.set id .dead).push o with lim:=l}:aA).get jH=some (.arr vety 4 [aG x] (some c)):=fun o l=>by
   rw[tC,cM,if_neg (by rw[X6];omega),bY wf bC,if_neg eG];exact gv
  have g0:∀o l,({(h.set id .dead).push o with lim:=l}:aA).get h.n=some o:=fun o l=>by
   rw[tC];exact cR
  have lA:((xs.take i++x::xs.drop i).map aG).all (fX 200 h.n)=true:=by
   rw[List.all_eq_true]
   intro y hy
   obtain⟨z,_,rfl⟩:=List.mem_map.1 hy
   exact(Lr z).belowN (by decide)
  have hd:List.take (xs.length+1) (List.drop 0 ((xs.take i++x::xs.drop i).map aG))=(xs.take i++x::xs.drop i).map aG:=by
   rw[List.drop_zero,List.take_of_length_le (by simp only[List.length_map,List.length_append,List.length_take,List.length_cons,List.length_drop];omega)]
  have sc1:gG (ev D) Ad [.int .i64 i,.sl jH 4 0 1] id 4 0 (xs.map aG).length 93 (xs.map aG) h 1 none=some ((xs.take i++x::xs.drop i).map aG):=by
   obtain⟨H',k1,k2⟩:=a152 {(h.set id .dead).push (.arr 93 4 (xs.map aG++[.unk]) none)with lim:=h.n} h.n xs i x jH vety (some c) (g0 _ _) (gv' _ _) hi hl hw.push (Nat.le_refl _) (by omega)
   simp only[gG,List.length_map,List.replicate_one]
   rw[k1]
   have cH:0+(xs.length+1)≤((xs.take i++x::xs.drop i).map aG).length:=by simp;omega
   simp only[nC,k2,true_and,Nat.le_refl]
   rw[hd,if_pos ⟨cH,lA⟩]
  have sc2:gG (ev D) Ad [.int .i64 i,.sl jH 4 0 1] id 4 0 (xs.map aG).length 93 (xs.map aG) h 0 (some ((xs.map aG).length+0))=some ((xs.take i++x::xs.drop i).map aG):=by
   obtain⟨H',k1,k2⟩:=b152 {(h.set id .dead).push (.arr 93 4 (xs.map aG) (some xs.length))with lim:=h.n} h.n xs i x jH vety (some c) (g0 _ _) (gv' _ _) hi hl hw.push (Nat.le_refl _) (by omega)
   simp only[gG,List.length_map,List.replicate_zero,List.append_nil,Nat.add_zero]
   rw[k1]
   have cH:0+(xs.length+1)≤((xs.take i++x::xs.drop i).map aG).length:=by simp;omega
   have hn:h.n≤({(h.set id .dead).push (.arr 93 4 (xs.map aG) (some xs.length))with lim:=h.n}:aA).n:=Nat.le_succ _
   simp only[nC,k2,true_and]
   rw[hd,if_pos ⟨hn,cH,lA⟩]
  have mB:rK ((xs.take i++x::xs.drop i).map aG) ((xs.take i++x::xs.drop i).map aG)=true:=by
   simp only[rK,lX,Bool.true_and]
   exact lZ fun y hy=>by
    obtain⟨z,_,rfl⟩:=List.mem_map.1 hy
    exact(Lr z).same (by decide)
  refine⟨.sl h.n 4 0 ((xs.take i++x::xs.drop i).map aG).length,(h.set id .dead).push (.arr 93 4 ((xs.take i++x::xs.drop i).map aG) none),?_,.arr h.n rfl (by exact cR) aL dS,((Ext.refl dS wf).set lO bC).push,((iF.refl _ _).set wf hg bC).push⟩
  simp only[dU,show Ad.mode=.split from rfl,hg,true_and,Dx,if_true]
  unfold kS
  have hk:(List.map wO [DV.int .i64 (i:Int),DV.sl jH 4 0 1]).foldl (·+·) 0=1:=rfl
  rw[hk,sc1]
  simp only[List.range_one,List.all_cons,List.all_nil,sc2,mB,Bool.and_self,if_true]
theorem q152{h:aA}{v:DV}{i jH:Nat}{A:Option (DV×aA)}(hA:fc D 152 [v,.int .i64 (i:Int),.sl jH 4 0 1] h=A)(lo:Nat)(xs:List bG)(x:bG){vety c:Nat}(ho:Own lo h v 93 4 (xs.map aG))(gv:h.get jH=some (.arr vety 4 [aG x] (some c)))(hi:i≤xs.length)(hl:xs.length≤1000000)(wf:WF h)(dS:lo≤h.n)(aL:h.lim≤h.n) :
  ∃ v' h',A=some (v',h')∧Own lo h' v' 93 4 ((xs.take i++x::xs.drop i).map aG)∧Ext lo h h'∧iF 93 h h':=by
 subst hA
 exact s152 lo h v xs i x jH vety c ho gv hi hl wf dS aL
theorem a153(H:aA)(n0:Nat)(xs:List ID)(i:Nat)(x:ID)(jH vety:Nat)(vcap:Option Nat)(g0:H.get n0=some (.arr 40 2 (xs.map eID++[.unk]) none))(gv:H.get jH=some (.arr vety 2 [eID x] vcap))(hi:i≤xs.length)(hl:xs.length≤1000000)(wf:WF H)(aL:H.lim≤n0)(eG:jH≠n0) :
  ∃ H',iT (ev D) Ac [.sl n0 2 0 xs.length,.int .i64 i,.sl jH 2 0 1] H=some (.sl n0 2 0 (xs.length+1),H')∧H'.get n0=some (.arr 40 2 ((xs.take i++x::xs.drop i).map eID) none):=by
 have bC:=bB g0
 have w1:IntKind.i64.wrap ((xs.length:Int)+1)=(xs.length:Int)+1:=aT (by omega) (by omega)
 rw[aJ _ _ _ _ (by simp[Ac])]
 by_cases rX:i=xs.length
 ·subst rX
  simp[Ac,g0,gv]
  rw[kO g0 (by simp) aL (by simp;omega) (by decide) (by simp)]
  simp[bY wf bC,dD]
 ·have At:¬((i:Int)=xs.length):=by omega
  have w2:IntKind.i64.wrap ((i:Int)+1)=(i:Int)+1:=aT (by omega) (by omega)
  have lO:i+1≤xs.length+1:=by omega
  have NJ:i+1+(xs.length-i)≤xs.length+1:=by omega
  have SZ:i+(xs.length+1-i)≤xs.length+1:=by omega
  have ZU:i≤xs.length+1:=by omega
  have hx:i<(xs.map eID).length:=by simp;omega
  have e1:=yM (xs.map eID) .unk i hx
  have e2:=Hm (xs.map eID) (eID x) i hx
  have UZ:xs.length+1≤min (i+1) xs.length+(xs.length-i):=by omega
  have ZT:i+1≤min (i+1) xs.length+(xs.length-i):=by omega
  simp only[List.length_map]at e1 e2
  simp[Ac,g0,gv,At,hi,w1,w2,e1,e2,UZ,ZT,lO,NJ,SZ,ZU,e190,eA,eG,aL,bC,bY wf,bY wf.set]
  have e3:List.take (xs.length+1-i) [eID x]=[eID x]:=List.take_of_length_le (by simp;omega)
  rw[e3,e2]
theorem b153(H:aA)(n0:Nat)(xs:List ID)(i:Nat)(x:ID)(jH vety:Nat)(vcap:Option Nat)(g0:H.get n0=some (.arr 40 2 (xs.map eID) (some xs.length)))(gv:H.get jH=some (.arr vety 2 [eID x] vcap))(hi:i≤xs.length)(hl:xs.length≤1000000)(wf:WF H)(aL:H.lim≤n0)(eG:jH≠n0) :
  ∃ H',iT (ev D) Ac [.sl n0 2 0 xs.length,.int .i64 i,.sl jH 2 0 1] H=some (.sl H.n 2 0 (xs.length+1),H')∧H'.get H.n=some (.arr 40 2 ((xs.take i++x::xs.drop i).map eID) none):=by
 have bC:=bB g0
 have Sp:=bB gv
 have w1:IntKind.i64.wrap ((xs.length:Int)+1)=(xs.length:Int)+1:=aT (by omega) (by omega)
 rw[aJ _ _ _ _ (by simp[Ac])]
 by_cases rX:i=xs.length
 ·subst rX
  simp[Ac,g0,gv]
  rw[gZ g0 (by simp) (by simp) (by simp;omega) (by decide) (by simp)]
  simp
  rw[List.take_of_length_le (by simp)]
 ·have At:¬((i:Int)=xs.length):=by omega
  have w2:IntKind.i64.wrap ((i:Int)+1)=(i:Int)+1:=aT (by omega) (by omega)
  have w3:IntKind.i64.wrap ((xs.length:Int)+1-i)=((xs.length+1-i:Nat):Int):=by rw[aT (by omega) (by omega)];omega
  have hx:i<(xs.map eID).length:=by simp;omega
  have hq:(xs.length:Int)<(xs.length:Int)+1:=by omega
  have Dv:H.lim≤H.n:=by omega
  have hz:((xs.length+1-i:Nat):Int)≤140737488355328:=by omega
  have e1:=fun z=>Cp (xs.map eID) z (eID x) i hx
  have e2:=fun z=>Co (xs.map eID) z (eID x) i hx
  have e3:i+(xs.length+1-i)=xs.length+1:=by omega
  have e4:i+(xs.length-i+1)=xs.length+1:=by omega
  have e5:i+1≤xs.length+1:=by omega
  have e6:i+1+(xs.length-i)≤xs.length+1:=by omega
  have e7:i≤xs.length+1:=by omega
  have e8:List.take (xs.length+1-i) [eID x]=[eID x]:=List.take_of_length_le (by simp;omega)
  have e9:List.take (xs.length-i) (List.drop i (List.map eID xs))=List.drop i (List.map eID xs):=List.take_of_length_le (by simp)
  simp only[List.length_map]at e1 e2
  simp[Ac,g0,gv,At,hi,w1,w2,w3,hq,hz]
  rw[gZ g0 (by simp;omega) (by simp;omega) (by simp;omega) (by decide) (by simp;omega)]
  simp[g0,gv,w2,hi,bC,Sp,aL,Dv,e3,e4,e5,e6,e7,e1,e2,e8,e9,Nat.ne_of_lt bC,Nat.ne_of_lt Sp,Nat.min_eq_left hi]
theorem s153(lo:Nat)(h:aA)(v:DV)(xs:List ID)(i:Nat)(x:ID)(jH vety c:Nat)(ho:Own lo h v 40 2 (xs.map eID))(gv:h.get jH=some (.arr vety 2 [eID x] (some c)))(hi:i≤xs.length)(hl:xs.length≤1000000)(wf:WF h)(dS:lo≤h.n)(aL:h.lim≤h.n) :
  ∃ v' h',fc D 153 [v,.int .i64 i,.sl jH 2 0 1] h=some (v',h')∧Own lo h' v' 40 2 ((xs.take i++x::xs.drop i).map eID)∧Ext lo h h'∧iF 40 h h':=by
 have Sp:=bB gv
 rw[e153]
 cases ho with
 | nil hv hx =>
  subst hv
  have Ao:xs=[]:=List.map_eq_nil_iff.1 hx
  subst Ao
  have rY:i=0:=by simpa using hi
  subst rY
  refine⟨.sl h.n 2 0 1,h.push (.arr 40 2 [eID x] none),?_,.arr h.n rfl cR aL dS,(Ext.refl dS wf).push,(iF.refl _ _).push⟩
  simp only[dU,Ac]
  rw[aJ _ _ _ _ (by simp)]
  simp[gv,iH,aY]
 | arr id hv hg Dx lO =>
  subst hv
  have bC:=bB hg
  have eG:jH≠id:=by intro e;subst e;rw[gv]at hg;simp at hg
  have hw:WF (h.set id .dead):=wf.set
  have gv':∀o l,({(h.set id .dead).push o with lim:=l}:aA).get jH=some (.arr vety 2 [eID x] (some c)):=fun o l=>by
   rw[tC,cM,if_neg (by rw[X6];omega),bY wf bC,if_neg eG];exact gv
  have g0:∀o l,({(h.set id .dead).push o with lim:=l}:aA).get h.n=some o:=fun o l=>by
   rw[tC];exact cR
  have lA:((xs.take i++x::xs.drop i).map eID).all (fX 200 h.n)=true:=by
   rw[List.all_eq_true]
   intro y hy
   obtain⟨z,_,rfl⟩:=List.mem_map.1 hy
   exact(OD z).belowN (by decide)
  have hd:List.take (xs.length+1) (List.drop 0 ((xs.take i++x::xs.drop i).map eID))=(xs.take i++x::xs.drop i).map eID:=by
   rw[List.drop_zero,List.take_of_length_le (by simp only[List.length_map,List.length_append,List.length_take,List.length_cons,List.length_drop];omega)]
  have sc1:gG (ev D) Ac [.int .i64 i,.sl jH 2 0 1] id 2 0 (xs.map eID).length 40 (xs.map eID) h 1 none=some ((xs.take i++x::xs.drop i).map eID):=by
   obtain⟨H',k1,k2⟩:=a153 {(h.set id .dead).push (.arr 40 2 (xs.map eID++[.unk]) none)with lim:=h.n} h.n xs i x jH vety (some c) (g0 _ _) (gv' _ _) hi hl hw.push (Nat.le_refl _) (by omega)
   simp only[gG,List.length_map,List.replicate_one]
   rw[k1]
   have cH:0+(xs.length+1)≤((xs.take i++x::xs.drop i).map eID).length:=by simp;omega
   simp only[nC,k2,true_and,Nat.le_refl]
   rw[hd,if_pos ⟨cH,lA⟩]
  have sc2:gG (ev D) Ac [.int .i64 i,.sl jH 2 0 1] id 2 0 (xs.map eID).length 40 (xs.map eID) h 0 (some ((xs.map eID).length+0))=some ((xs.take i++x::xs.drop i).map eID):=by
   obtain⟨H',k1,k2⟩:=b153 {(h.set id .dead).push (.arr 40 2 (xs.map eID) (some xs.length))with lim:=h.n} h.n xs i x jH vety (some c) (g0 _ _) (gv' _ _) hi hl hw.push (Nat.le_refl _) (by omega)
   simp only[gG,List.length_map,List.replicate_zero,List.append_nil,Nat.add_zero]
   rw[k1]
   have cH:0+(xs.length+1)≤((xs.take i++x::xs.drop i).map eID).length:=by simp;omega
   have hn:h.n≤({(h.set id .dead).push (.arr 40 2 (xs.map eID) (some xs.length))with lim:=h.n}:aA).n:=Nat.le_succ _
   simp only[nC,k2,true_and]
   rw[hd,if_pos ⟨hn,cH,lA⟩]
  have mB:rK ((xs.take i++x::xs.drop i).map eID) ((xs.take i++x::xs.drop i).map eID)=true:=by
   simp only[rK,lX,Bool.true_and]
   exact lZ fun y hy=>by
    obtain⟨z,_,rfl⟩:=List.mem_map.1 hy
    exact(OD z).same (by decide)
  refine⟨.sl h.n 2 0 ((xs.take i++x::xs.drop i).map eID).length,(h.set id .dead).push (.arr 40 2 ((xs.take i++x::xs.drop i).map eID) none),?_,.arr h.n rfl (by exact cR) aL dS,((Ext.refl dS wf).set lO bC).push,((iF.refl _ _).set wf hg bC).push⟩
  simp only[dU,show Ac.mode=.split from rfl,hg,true_and,Dx,if_true]
  unfold kS
  have hk:(List.map wO [DV.int .i64 (i:Int),DV.sl jH 2 0 1]).foldl (·+·) 0=1:=rfl
  rw[hk,sc1]
  simp only[List.range_one,List.all_cons,List.all_nil,sc2,mB,Bool.and_self,if_true]
theorem q153{h:aA}{v:DV}{i jH:Nat}{A:Option (DV×aA)}(hA:fc D 153 [v,.int .i64 (i:Int),.sl jH 2 0 1] h=A)(lo:Nat)(xs:List ID)(x:ID){vety c:Nat}(ho:Own lo h v 40 2 (xs.map eID))(gv:h.get jH=some (.arr vety 2 [eID x] (some c)))(hi:i≤xs.length)(hl:xs.length≤1000000)(wf:WF h)(dS:lo≤h.n)(aL:h.lim≤h.n) :
  ∃ v' h',A=some (v',h')∧Own lo h' v' 40 2 ((xs.take i++x::xs.drop i).map eID)∧Ext lo h h'∧iF 40 h h':=by
 subst hA
 exact s153 lo h v xs i x jH vety c ho gv hi hl wf dS aL
theorem a157(H:aA)(n0:Nat)(xs:List aX)(i:Nat)(x:aX)(jH vety:Nat)(vcap:Option Nat)(g0:H.get n0=some (.arr 114 7 (xs.map aD++[.unk]) none))(gv:H.get jH=some (.arr vety 7 [aD x] vcap))(hi:i≤xs.length)(hl:xs.length≤1000000)(wf:WF H)(aL:H.lim≤n0)(eG:jH≠n0) :
  ∃ H',iT (ev D) Ab [.sl n0 7 0 xs.length,.int .i64 i,.sl jH 7 0 1] H=some (.sl n0 7 0 (xs.length+1),H')∧H'.get n0=some (.arr 114 7 ((xs.take i++x::xs.drop i).map aD) none):=by
 have bC:=bB g0
 have w1:IntKind.i64.wrap ((xs.length:Int)+1)=(xs.length:Int)+1:=aT (by omega) (by omega)
 rw[aJ _ _ _ _ (by simp[Ab])]
 by_cases rX:i=xs.length
 ·subst rX
  simp[Ab,g0,gv]
  rw[kO g0 (by simp) aL (by simp;omega) (by decide) (by simp)]
  simp[bY wf bC,dD]
 ·have At:¬((i:Int)=xs.length):=by omega
  have w2:IntKind.i64.wrap ((i:Int)+1)=(i:Int)+1:=aT (by omega) (by omega)
  have lO:i+1≤xs.length+1:=by omega
  have NJ:i+1+(xs.length-i)≤xs.length+1:=by omega
  have SZ:i+(xs.length+1-i)≤xs.length+1:=by omega
  have ZU:i≤xs.length+1:=by omega
  have hx:i<(xs.map aD).length:=by simp;omega
  have e1:=yM (xs.map aD) .unk i hx
  have e2:=Hm (xs.map aD) (aD x) i hx
  have UZ:xs.length+1≤min (i+1) xs.length+(xs.length-i):=by omega
  have ZT:i+1≤min (i+1) xs.length+(xs.length-i):=by omega
  simp only[List.length_map]at e1 e2
  simp[Ab,g0,gv,At,hi,w1,w2,e1,e2,UZ,ZT,lO,NJ,SZ,ZU,e196,eA,eG,aL,bC,bY wf,bY wf.set]
  have e3:List.take (xs.length+1-i) [aD x]=[aD x]:=List.take_of_length_le (by simp;omega)
  rw[e3,e2]
theorem b157(H:aA)(n0:Nat)(xs:List aX)(i:Nat)(x:aX)(jH vety:Nat)(vcap:Option Nat)(g0:H.get n0=some (.arr 114 7 (xs.map aD) (some xs.length)))(gv:H.get jH=some (.arr vety 7 [aD x] vcap))(hi:i≤xs.length)(hl:xs.length≤1000000)(wf:WF H)(aL:H.lim≤n0)(eG:jH≠n0) :
  ∃ H',iT (ev D) Ab [.sl n0 7 0 xs.length,.int .i64 i,.sl jH 7 0 1] H=some (.sl H.n 7 0 (xs.length+1),H')∧H'.get H.n=some (.arr 114 7 ((xs.take i++x::xs.drop i).map aD) none):=by
 have bC:=bB g0
 have Sp:=bB gv
 have w1:IntKind.i64.wrap ((xs.length:Int)+1)=(xs.length:Int)+1:=aT (by omega) (by omega)
 rw[aJ _ _ _ _ (by simp[Ab])]
 by_cases rX:i=xs.length
 ·subst rX
  simp[Ab,g0,gv]
  rw[gZ g0 (by simp) (by simp) (by simp;omega) (by decide) (by simp)]
  simp
  rw[List.take_of_length_le (by simp)]
 ·have At:¬((i:Int)=xs.length):=by omega
  have w2:IntKind.i64.wrap ((i:Int)+1)=(i:Int)+1:=aT (by omega) (by omega)
  have w3:IntKind.i64.wrap ((xs.length:Int)+1-i)=((xs.length+1-i:Nat):Int):=by rw[aT (by omega) (by omega)];omega
  have hx:i<(xs.map aD).length:=by simp;omega
  have hq:(xs.length:Int)<(xs.length:Int)+1:=by omega
  have Dv:H.lim≤H.n:=by omega
  have hz:((xs.length+1-i:Nat):Int)≤140737488355328:=by omega
  have e1:=fun z=>Cp (xs.map aD) z (aD x) i hx
  have e2:=fun z=>Co (xs.map aD) z (aD x) i hx
  have e3:i+(xs.length+1-i)=xs.length+1:=by omega
  have e4:i+(xs.length-i+1)=xs.length+1:=by omega
  have e5:i+1≤xs.length+1:=by omega
  have e6:i+1+(xs.length-i)≤xs.length+1:=by omega
  have e7:i≤xs.length+1:=by omega
  have e8:List.take (xs.length+1-i) [aD x]=[aD x]:=List.take_of_length_le (by simp;omega)
  have e9:List.take (xs.length-i) (List.drop i (List.map aD xs))=List.drop i (List.map aD xs):=List.take_of_length_le (by simp)
  simp only[List.length_map]at e1 e2
  simp[Ab,g0,gv,At,hi,w1,w2,w3,hq,hz]
  rw[gZ g0 (by simp;omega) (by simp;omega) (by simp;omega) (by decide) (by simp;omega)]
  simp[g0,gv,w2,hi,bC,Sp,aL,Dv,e3,e4,e5,e6,e7,e1,e2,e8,e9,Nat.ne_of_lt bC,Nat.ne_of_lt Sp,Nat.min_eq_left hi]
theorem s157(lo:Nat)(h:aA)(v:DV)(xs:List aX)(i:Nat)(x:aX)(jH vety c:Nat)(ho:Own lo h v 114 7 (xs.map aD))(gv:h.get jH=some (.arr vety 7 [aD x] (some c)))(hi:i≤xs.length)(hl:xs.length≤1000000)(wf:WF h)(dS:lo≤h.n)(aL:h.lim≤h.n) :
  ∃ v' h',fc D 157 [v,.int .i64 i,.sl jH 7 0 1] h=some (v',h')∧Own lo h' v' 114 7 ((xs.take i++x::xs.drop i).map aD)∧Ext lo h h'∧iF 114 h h':=by
 have Sp:=bB gv
 rw[e157]
 cases ho with
 | nil hv hx =>
  subst hv
  have Ao:xs=[]:=List.map_eq_nil_iff.1 hx
  subst Ao
  have rY:i=0:=by simpa using hi
  subst rY
  refine⟨.sl h.n 7 0 1,h.push (.arr 114 7 [aD x] none),?_,.arr h.n rfl cR aL dS,(Ext.refl dS wf).push,(iF.refl _ _).push⟩
  simp only[dU,Ab]
  rw[aJ _ _ _ _ (by simp)]
  simp[gv,iH,aY]
 | arr id hv hg Dx lO =>
  subst hv
  have bC:=bB hg
  have eG:jH≠id:=by intro e;subst e;rw[gv]at hg;simp at hg
  have hw:WF (h.set id .dead):=wf.set
  have gv':∀o l,({(h.set id .dead).push o with lim:=l}:aA).get jH=some (.arr vety 7 [aD x] (some c)):=fun o l=>by
   rw[tC,cM,if_neg (by rw[X6];omega),bY wf bC,if_neg eG];exact gv
  have g0:∀o l,({(h.set id .dead).push o with lim:=l}:aA).get h.n=some o:=fun o l=>by
   rw[tC];exact cR
  have lA:((xs.take i++x::xs.drop i).map aD).all (fX 200 h.n)=true:=by
   rw[List.all_eq_true]
   intro y hy
   obtain⟨z,_,rfl⟩:=List.mem_map.1 hy
   exact(Ou z).belowN (by decide)
  have hd:List.take (xs.length+1) (List.drop 0 ((xs.take i++x::xs.drop i).map aD))=(xs.take i++x::xs.drop i).map aD:=by
   rw[List.drop_zero,List.take_of_length_le (by simp only[List.length_map,List.length_append,List.length_take,List.length_cons,List.length_drop];omega)]
  have sc1:gG (ev D) Ab [.int .i64 i,.sl jH 7 0 1] id 7 0 (xs.map aD).length 114 (xs.map aD) h 1 none=some ((xs.take i++x::xs.drop i).map aD):=by
   obtain⟨H',k1,k2⟩:=a157 {(h.set id .dead).push (.arr 114 7 (xs.map aD++[.unk]) none)with lim:=h.n} h.n xs i x jH vety (some c) (g0 _ _) (gv' _ _) hi hl hw.push (Nat.le_refl _) (by omega)
   simp only[gG,List.length_map,List.replicate_one]
   rw[k1]
   have cH:0+(xs.length+1)≤((xs.take i++x::xs.drop i).map aD).length:=by simp;omega
   simp only[nC,k2,true_and,Nat.le_refl]
   rw[hd,if_pos ⟨cH,lA⟩]
  have sc2:gG (ev D) Ab [.int .i64 i,.sl jH 7 0 1] id 7 0 (xs.map aD).length 114 (xs.map aD) h 0 (some ((xs.map aD).length+0))=some ((xs.take i++x::xs.drop i).map aD):=by
   obtain⟨H',k1,k2⟩:=b157 {(h.set id .dead).push (.arr 114 7 (xs.map aD) (some xs.length))with lim:=h.n} h.n xs i x jH vety (some c) (g0 _ _) (gv' _ _) hi hl hw.push (Nat.le_refl _) (by omega)
   simp only[gG,List.length_map,List.replicate_zero,List.append_nil,Nat.add_zero]
   rw[k1]
   have cH:0+(xs.length+1)≤((xs.take i++x::xs.drop i).map aD).length:=by simp;omega
   have hn:h.n≤({(h.set id .dead).push (.arr 114 7 (xs.map aD) (some xs.length))with lim:=h.n}:aA).n:=Nat.le_succ _
   simp only[nC,k2,true_and]
   rw[hd,if_pos ⟨hn,cH,lA⟩]
  have mB:rK ((xs.take i++x::xs.drop i).map aD) ((xs.take i++x::xs.drop i).map aD)=true:=by
   simp only[rK,lX,Bool.true_and]
   exact lZ fun y hy=>by
    obtain⟨z,_,rfl⟩:=List.mem_map.1 hy
    exact(Ou z).same (by decide)
  refine⟨.sl h.n 7 0 ((xs.take i++x::xs.drop i).map aD).length,(h.set id .dead).push (.arr 114 7 ((xs.take i++x::xs.drop i).map aD) none),?_,.arr h.n rfl (by exact cR) aL dS,((Ext.refl dS wf).set lO bC).push,((iF.refl _ _).set wf hg bC).push⟩
  simp only[dU,show Ab.mode=.split from rfl,hg,true_and,Dx,if_true]
  unfold kS
  have hk:(List.map wO [DV.int .i64 (i:Int),DV.sl jH 7 0 1]).foldl (·+·) 0=1:=rfl
  rw[hk,sc1]
  simp only[List.range_one,List.all_cons,List.all_nil,sc2,mB,Bool.and_self,if_true]
theorem RO{h:aA}{v:DV}{i jH:Nat}{A:Option (DV×aA)}(hA:fc D 157 [v,.int .i64 (i:Int),.sl jH 7 0 1] h=A)(lo:Nat)(xs:List aX)(x:aX){vety c:Nat}(ho:Own lo h v 114 7 (xs.map aD))(gv:h.get jH=some (.arr vety 7 [aD x] (some c)))(hi:i≤xs.length)(hl:xs.length≤1000000)(wf:WF h)(dS:lo≤h.n)(aL:h.lim≤h.n) :
  ∃ v' h',A=some (v',h')∧Own lo h' v' 114 7 ((xs.take i++x::xs.drop i).map aD)∧Ext lo h h'∧iF 114 h h':=by
 subst hA
 exact s157 lo h v xs i x jH vety c ho gv hi hl wf dS aL
theorem a222(H:aA)(n0:Nat)(xs:List eQ)(i:Nat)(x:eQ)(jH vety:Nat)(vcap:Option Nat)(g0:H.get n0=some (.arr 96 5 (xs.map aO++[.unk]) none))(gv:H.get jH=some (.arr vety 5 [aO x] vcap))(hi:i≤xs.length)(hl:xs.length≤1000000)(wf:WF H)(aL:H.lim≤n0)(eG:jH≠n0) :
  ∃ H',iT (ev D) zX [.sl n0 5 0 xs.length,.int .i64 i,.sl jH 5 0 1] H=some (.sl n0 5 0 (xs.length+1),H')∧H'.get n0=some (.arr 96 5 ((xs.take i++x::xs.drop i).map aO) none):=by
 have bC:=bB g0
 have w1:IntKind.i64.wrap ((xs.length:Int)+1)=(xs.length:Int)+1:=aT (by omega) (by omega)
 rw[aJ _ _ _ _ (by simp[zX])]
 by_cases rX:i=xs.length
 ·subst rX
  simp[zX,g0,gv]
  rw[kO g0 (by simp) aL (by simp;omega) (by decide) (by simp)]
  simp[bY wf bC,dD]
 ·have At:¬((i:Int)=xs.length):=by omega
  have w2:IntKind.i64.wrap ((i:Int)+1)=(i:Int)+1:=aT (by omega) (by omega)
  have lO:i+1≤xs.length+1:=by omega
  have NJ:i+1+(xs.length-i)≤xs.length+1:=by omega
  have SZ:i+(xs.length+1-i)≤xs.length+1:=by omega
  have ZU:i≤xs.length+1:=by omega
  have hx:i<(xs.map aO).length:=by simp;omega
  have e1:=yM (xs.map aO) .unk i hx
  have e2:=Hm (xs.map aO) (aO x) i hx
  have UZ:xs.length+1≤min (i+1) xs.length+(xs.length-i):=by omega
  have ZT:i+1≤min (i+1) xs.length+(xs.length-i):=by omega
  simp only[List.length_map]at e1 e2
  simp[zX,g0,gv,At,hi,w1,w2,e1,e2,UZ,ZT,lO,NJ,SZ,ZU,e234,eA,eG,aL,bC,bY wf,bY wf.set]
  have e3:List.take (xs.length+1-i) [aO x]=[aO x]:=List.take_of_length_le (by simp;omega)
  rw[e3,e2]
theorem b222(H:aA)(n0:Nat)(xs:List eQ)(i:Nat)(x:eQ)(jH vety:Nat)(vcap:Option Nat)(g0:H.get n0=some (.arr 96 5 (xs.map aO) (some xs.length)))(gv:H.get jH=some (.arr vety 5 [aO x] vcap))(hi:i≤xs.length)(hl:xs.length≤1000000)(wf:WF H)(aL:H.lim≤n0)(eG:jH≠n0) :
  ∃ H',iT (ev D) zX [.sl n0 5 0 xs.length,.int .i64 i,.sl jH 5 0 1] H=some (.sl H.n 5 0 (xs.length+1),H')∧H'.get H.n=some (.arr 96 5 ((xs.take i++x::xs.drop i).map aO) none):=by
 have bC:=bB g0
 have Sp:=bB gv
 have w1:IntKind.i64.wrap ((xs.length:Int)+1)=(xs.length:Int)+1:=aT (by omega) (by omega)
 rw[aJ _ _ _ _ (by simp[zX])]
 by_cases rX:i=xs.length
 ·subst rX
  simp[zX,g0,gv]
  rw[gZ g0 (by simp) (by simp) (by simp;omega) (by decide) (by simp)]
  simp
  rw[List.take_of_length_le (by simp)]
 ·have At:¬((i:Int)=xs.length):=by omega
  have w2:IntKind.i64.wrap ((i:Int)+1)=(i:Int)+1:=aT (by omega) (by omega)
  have w3:IntKind.i64.wrap ((xs.length:Int)+1-i)=((xs.length+1-i:Nat):Int):=by rw[aT (by omega) (by omega)];omega
  have hx:i<(xs.map aO).length:=by simp;omega
  have hq:(xs.length:Int)<(xs.length:Int)+1:=by omega
  have Dv:H.lim≤H.n:=by omega
  have hz:((xs.length+1-i:Nat):Int)≤140737488355328:=by omega
  have e1:=fun z=>Cp (xs.map aO) z (aO x) i hx
  have e2:=fun z=>Co (xs.map aO) z (aO x) i hx
  have e3:i+(xs.length+1-i)=xs.length+1:=by omega
  have e4:i+(xs.length-i+1)=xs.length+1:=by omega
  have e5:i+1≤xs.length+1:=by omega
  have e6:i+1+(xs.length-i)≤xs.length+1:=by omega
  have e7:i≤xs.length+1:=by omega
  have e8:List.take (xs.length+1-i) [aO x]=[aO x]:=List.take_of_length_le (by simp;omega)
  have e9:List.take (xs.length-i) (List.drop i (List.map aO xs))=List.drop i (List.map aO xs):=List.take_of_length_le (by simp)
  simp only[List.length_map]at e1 e2
  simp[zX,g0,gv,At,hi,w1,w2,w3,hq,hz]
  rw[gZ g0 (by simp;omega) (by simp;omega) (by simp;omega) (by decide) (by simp;omega)]
  simp[g0,gv,w2,hi,bC,Sp,aL,Dv,e3,e4,e5,e6,e7,e1,e2,e8,e9,Nat.ne_of_lt bC,Nat.ne_of_lt Sp,Nat.min_eq_left hi]
theorem s222(lo:Nat)(h:aA)(v:DV)(xs:List eQ)(i:Nat)(x:eQ)(jH vety c:Nat)(ho:Own lo h v 96 5 (xs.map aO))(gv:h.get jH=some (.arr vety 5 [aO x] (some c)))(hi:i≤xs.length)(hl:xs.length≤1000000)(wf:WF h)(dS:lo≤h.n)(aL:h.lim≤h.n) :
  ∃ v' h',fc D 222 [v,.int .i64 i,.sl jH 5 0 1] h=some (v',h')∧Own lo h' v' 96 5 ((xs.take i++x::xs.drop i).map aO)∧Ext lo h h'∧iF 96 h h':=by
 have Sp:=bB gv
 rw[e222]
 cases ho with
 | nil hv hx =>
  subst hv
  have Ao:xs=[]:=List.map_eq_nil_iff.1 hx
  subst Ao
  have rY:i=0:=by simpa using hi
  subst rY
  refine⟨.sl h.n 5 0 1,h.push (.arr 96 5 [aO x] none),?_,.arr h.n rfl cR aL dS,(Ext.refl dS wf).push,(iF.refl _ _).push⟩
  simp only[dU,zX]
  rw[aJ _ _ _ _ (by simp)]
  simp[gv,iH,aY]
 | arr id hv hg Dx lO =>
  subst hv
  have bC:=bB hg
  have eG:jH≠id:=by intro e;subst e;rw[gv]at hg;simp at hg
  have hw:WF (h.set id .dead):=wf.set
  have gv':∀o l,({(h.set id .dead).push o with lim:=l}:aA).get jH=some (.arr vety 5 [aO x] (some c)):=fun o l=>by
   rw[tC,cM,if_neg (by rw[X6];omega),bY wf bC,if_neg eG];exact gv
  have g0:∀o l,({(h.set id .dead).push o with lim:=l}:aA).get h.n=some o:=fun o l=>by
   rw[tC];exact cR
  have lA:((xs.take i++x::xs.drop i).map aO).all (fX 200 h.n)=true:=by
   rw[List.all_eq_true]
   intro y hy
   obtain⟨z,_,rfl⟩:=List.mem_map.1 hy
   exact(Lq z).belowN (by decide)
  have hd:List.take (xs.length+1) (List.drop 0 ((xs.take i++x::xs.drop i).map aO))=(xs.take i++x::xs.drop i).map aO:=by
   rw[List.drop_zero,List.take_of_length_le (by simp only[List.length_map,List.length_append,List.length_take,List.length_cons,List.length_drop];omega)]
  have sc1:gG (ev D) zX [.int .i64 i,.sl jH 5 0 1] id 5 0 (xs.map aO).length 96 (xs.map aO) h 1 none=some ((xs.take i++x::xs.drop i).map aO):=by
   obtain⟨H',k1,k2⟩:=a222 {(h.set id .dead).push (.arr 96 5 (xs.map aO++[.unk]) none)with lim:=h.n} h.n xs i x jH vety (some c) (g0 _ _) (gv' _ _) hi hl hw.push (Nat.le_refl _) (by omega)
   simp only[gG,List.length_map,List.replicate_one]
   rw[k1]
   have cH:0+(xs.length+1)≤((xs.take i++x::xs.drop i).map aO).length:=by simp;omega
   simp only[nC,k2,true_and,Nat.le_refl]
   rw[hd,if_pos ⟨cH,lA⟩]
  have sc2:gG (ev D) zX [.int .i64 i,.sl jH 5 0 1] id 5 0 (xs.map aO).length 96 (xs.map aO) h 0 (some ((xs.map aO).length+0))=some ((xs.take i++x::xs.drop i).map aO):=by
   obtain⟨H',k1,k2⟩:=b222 {(h.set id .dead).push (.arr 96 5 (xs.map aO) (some xs.length))with lim:=h.n} h.n xs i x jH vety (some c) (g0 _ _) (gv' _ _) hi hl hw.push (Nat.le_refl _) (by omega)
   simp only[gG,List.length_map,List.replicate_zero,List.append_nil,Nat.add_zero]
   rw[k1]
   have cH:0+(xs.length+1)≤((xs.take i++x::xs.drop i).map aO).length:=by simp;omega
   have hn:h.n≤({(h.set id .dead).push (.arr 96 5 (xs.map aO) (some xs.length))with lim:=h.n}:aA).n:=Nat.le_succ _
   simp only[nC,k2,true_and]
   rw[hd,if_pos ⟨hn,cH,lA⟩]
  have mB:rK ((xs.take i++x::xs.drop i).map aO) ((xs.take i++x::xs.drop i).map aO)=true:=by
   simp only[rK,lX,Bool.true_and]
   exact lZ fun y hy=>by
    obtain⟨z,_,rfl⟩:=List.mem_map.1 hy
    exact(Lq z).same (by decide)
  refine⟨.sl h.n 5 0 ((xs.take i++x::xs.drop i).map aO).length,(h.set id .dead).push (.arr 96 5 ((xs.take i++x::xs.drop i).map aO) none),?_,.arr h.n rfl (by exact cR) aL dS,((Ext.refl dS wf).set lO bC).push,((iF.refl _ _).set wf hg bC).push⟩
  simp only[dU,show zX.mode=.split from rfl,hg,true_and,Dx,if_true]
  unfold kS
  have hk:(List.map wO [DV.int .i64 (i:Int),DV.sl jH 5 0 1]).foldl (·+·) 0=1:=rfl
  rw[hk,sc1]
  simp only[List.range_one,List.all_cons,List.all_nil,sc2,mB,Bool.and_self,if_true]
theorem q222{h:aA}{v:DV}{i jH:Nat}{A:Option (DV×aA)}(hA:fc D 222 [v,.int .i64 (i:Int),.sl jH 5 0 1] h=A)(lo:Nat)(xs:List eQ)(x:eQ){vety c:Nat}(ho:Own lo h v 96 5 (xs.map aO))(gv:h.get jH=some (.arr vety 5 [aO x] (some c)))(hi:i≤xs.length)(hl:xs.length≤1000000)(wf:WF h)(dS:lo≤h.n)(aL:h.lim≤h.n) :
  ∃ v' h',A=some (v',h')∧Own lo h' v' 96 5 ((xs.take i++x::xs.drop i).map aO)∧Ext lo h h'∧iF 96 h h':=by
 subst hA
 exact s222 lo h v xs i x jH vety c ho gv hi hl wf dS aL
end Go.Dm.Tc
/-
What functions of the statements' books compute: are two rows the same?
-/
namespace Go.Dm.Tc
theorem qD{x y:ID}(h:x≠y):(x.aW == y.aW && x.seq == y.seq)=false:=by
 obtain⟨a,b⟩:=x
 obtain⟨c,d⟩:=y
 simp only[ne_eq,ID.mk.injEq,not_and]at h
 by_cases h1:a=c
 ·simp[h1,h h1]
 ·simp[h1]
theorem l38(t u:Bool)(xs ys:List Int)(hl:xs.length≤1000000)(lU:xs.length=ys.length) :
  ∀(rest bL:List Int) (i:Nat) (f:cT) (h:aA),xs.drop i=rest→ys.drop i=bL→f 0=eL t 1 bO xs→f 1=eL u 1 bO ys→f 5=.int .i64 i →
  cW (fin [.t 4] (run D 26 [.block 0,.seq JF] (.loop V7) f h))=some (.bool (decide (rest=bL))):=by
 intro rest
 induction rest with
 | nil =>
  intro bL i f h hd lD h0 h1 h5
  have hi:=bH hd
  have:¬(i<xs.length):=by omega
  have hr:bL=[]:=by rw[←lD];exact List.drop_eq_nil_of_le (by omega)
  subst hr
  rw[aC V7.eq_1]
  simp[JF,h0,h5,this]
 | cons e rest ih =>
  intro bL i f h hd lD h0 h1 h5
  obtain⟨hi,he,eJ⟩:=bR hd
  cases bL with
  | nil=>have:=bH lD;omega
  | cons e' bL =>
   obtain⟨gJ,kL,pO⟩:=bR lD
   rw[aC V7.eq_1]
   by_cases hp:e=e'
   ·subst hp
    simp[h0,h1,h5,hi,gJ,he,kL,bO]
    rw[aT (by omega) (by omega)]
    refine(ih bL (i+1) _ h eJ pO ?_ ?_ ?_).trans ?_<;>simp[h0,h1,bO]
   ·have qQ:=hp
    first
     | rw[ID.mk.injEq]at qQ
     | (cases e;cases e';simp only[ID.mk.injEq,eQ.mk.injEq,not_and]at qQ)
     | (cases e;cases e';rename_i v _ v';cases v;cases v';simp only[Att.mk.injEq,Val.mk.injEq,not_and]at qQ)
     | skip
    simp[h0,h1,h5,hi,gJ,he,kL,bO,hp,qQ,-not_and]
    try (split<;>simp_all)
theorem s38(t u:Bool)(xs ys:List Int)(hl:xs.length≤1000000) :
  pcF D t38 [eL t 1 bO xs,eL u 1 bO ys]=some (.bool (decide (xs=ys))):=by
 unfold pcF
 rw[aJ _ _ _ _ (by simp[t38])]
 by_cases lU:xs.length=ys.length
 ·simp[t38,lU]
  refine(l38 t u xs ys hl lU xs ys 0 _ _ rfl rfl ?_ ?_ ?_).trans ?_<;>simp[lU]
 ·have:xs≠ys:=fun h=>lU (by rw[h])
  have h2:¬((xs.length:Int)=ys.length):=by omega
  simp[t38,h2,this]
theorem l39(t u:Bool)(xs ys:List ID)(hl:xs.length≤1000000)(lU:xs.length=ys.length) :
  ∀(rest bL:List ID) (i:Nat) (f:cT) (h:aA),xs.drop i=rest→ys.drop i=bL→f 0=eL t 2 eID xs→f 1=eL u 2 eID ys→f 5=.int .i64 i →
  cW (fin [.t 4] (run D 26 [.block 0,.seq JE] (.loop V6) f h))=some (.bool (decide (rest=bL))):=by
 intro rest
 induction rest with
 | nil =>
  intro bL i f h hd lD h0 h1 h5
  have hi:=bH hd
  have:¬(i<xs.length):=by omega
  have hr:bL=[]:=by rw[←lD];exact List.drop_eq_nil_of_le (by omega)
  subst hr
  rw[aC V6.eq_1]
  simp[JE,h0,h5,this]
 | cons e rest ih =>
  intro bL i f h hd lD h0 h1 h5
  obtain⟨hi,he,eJ⟩:=bR hd
  cases bL with
  | nil=>have:=bH lD;omega
  | cons e' bL =>
   obtain⟨gJ,kL,pO⟩:=bR lD
   rw[aC V6.eq_1]
   by_cases hp:e=e'
   ·subst hp
    simp[h0,h1,h5,hi,gJ,he,kL,eID]
    rw[aT (by omega) (by omega)]
    refine(ih bL (i+1) _ h eJ pO ?_ ?_ ?_).trans ?_<;>simp[h0,h1,eID]
   ·have qQ:=hp
    first
     | rw[ID.mk.injEq]at qQ
     | (cases e;cases e';simp only[ID.mk.injEq,eQ.mk.injEq,not_and]at qQ)
     | (cases e;cases e';rename_i v _ v';cases v;cases v';simp only[Att.mk.injEq,Val.mk.injEq,not_and]at qQ)
     | skip
    simp[h0,h1,h5,hi,gJ,he,kL,eID,hp,qQ,-not_and]
    try (split<;>simp_all)
theorem s39(t u:Bool)(xs ys:List ID)(hl:xs.length≤1000000) :
  pcF D t39 [eL t 2 eID xs,eL u 2 eID ys]=some (.bool (decide (xs=ys))):=by
 unfold pcF
 rw[aJ _ _ _ _ (by simp[t39])]
 by_cases lU:xs.length=ys.length
 ·simp[t39,lU]
  refine(l39 t u xs ys hl lU xs ys 0 _ _ rfl rfl ?_ ?_ ?_).trans ?_<;>simp[lU]
 ·have:xs≠ys:=fun h=>lU (by rw[h])
  have h2:¬((xs.length:Int)=ys.length):=by omega
  simp[t39,h2,this]
theorem l41(t u:Bool)(xs ys:List eQ)(hl:xs.length≤1000000)(lU:xs.length=ys.length) :
  ∀(rest bL:List eQ) (i:Nat) (f:cT) (h:aA),xs.drop i=rest→ys.drop i=bL→f 0=eL t 5 aO xs→f 1=eL u 5 aO ys→f 5=.int .i64 i →
  cW (fin [.t 4] (run D 26 [.block 0,.seq JC] (.loop V4) f h))=some (.bool (decide (rest=bL))):=by
 intro rest
 induction rest with
 | nil =>
  intro bL i f h hd lD h0 h1 h5
  have hi:=bH hd
  have:¬(i<xs.length):=by omega
  have hr:bL=[]:=by rw[←lD];exact List.drop_eq_nil_of_le (by omega)
  subst hr
  rw[aC V4.eq_1]
  simp[JC,h0,h5,this]
 | cons e rest ih =>
  intro bL i f h hd lD h0 h1 h5
  obtain⟨hi,he,eJ⟩:=bR hd
  cases bL with
  | nil=>have:=bH lD;omega
  | cons e' bL =>
   obtain⟨gJ,kL,pO⟩:=bR lD
   rw[aC V4.eq_1]
   by_cases hp:e=e'
   ·subst hp
    simp[h0,h1,h5,hi,gJ,he,kL,aO]
    rw[aT (by omega) (by omega)]
    refine(ih bL (i+1) _ h eJ pO ?_ ?_ ?_).trans ?_<;>simp[h0,h1,aO]
   ·have qQ:=hp
    first
     | rw[ID.mk.injEq]at qQ
     | (cases e;cases e';simp only[ID.mk.injEq,eQ.mk.injEq,not_and]at qQ)
     | (cases e;cases e';rename_i v _ v';cases v;cases v';simp only[Att.mk.injEq,Val.mk.injEq,not_and]at qQ)
     | skip
    simp[h0,h1,h5,hi,gJ,he,kL,aO,hp,qQ,-not_and]
    try (split<;>simp_all)
theorem s41(t u:Bool)(xs ys:List eQ)(hl:xs.length≤1000000) :
  pcF D t41 [eL t 5 aO xs,eL u 5 aO ys]=some (.bool (decide (xs=ys))):=by
 unfold pcF
 rw[aJ _ _ _ _ (by simp[t41])]
 by_cases lU:xs.length=ys.length
 ·simp[t41,lU]
  refine(l41 t u xs ys hl lU xs ys 0 _ _ rfl rfl ?_ ?_ ?_).trans ?_<;>simp[lU]
 ·have:xs≠ys:=fun h=>lU (by rw[h])
  have h2:¬((xs.length:Int)=ys.length):=by omega
  simp[t41,h2,this]
theorem l43(t u:Bool)(xs ys:List Att)(hl:xs.length≤1000000)(lU:xs.length=ys.length) :
  ∀(rest bL:List Att) (i:Nat) (f:cT) (h:aA),xs.drop i=rest→ys.drop i=bL→f 0=eL t 4 gC xs→f 1=eL u 4 gC ys→f 5=.int .i64 i →
  cW (fin [.t 4] (run D 26 [.block 0,.seq JB] (.loop V3) f h))=some (.bool (decide (rest=bL))):=by
 intro rest
 induction rest with
 | nil =>
  intro bL i f h hd lD h0 h1 h5
  have hi:=bH hd
  have:¬(i<xs.length):=by omega
  have hr:bL=[]:=by rw[←lD];exact List.drop_eq_nil_of_le (by omega)
  subst hr
  rw[aC V3.eq_1]
  simp[JB,h0,h5,this]
 | cons e rest ih =>
  intro bL i f h hd lD h0 h1 h5
  obtain⟨hi,he,eJ⟩:=bR hd
  cases bL with
  | nil=>have:=bH lD;omega
  | cons e' bL =>
   obtain⟨gJ,kL,pO⟩:=bR lD
   rw[aC V3.eq_1]
   by_cases hp:e=e'
   ·subst hp
    simp[h0,h1,h5,hi,gJ,he,kL,gC]
    rw[aT (by omega) (by omega)]
    refine(ih bL (i+1) _ h eJ pO ?_ ?_ ?_).trans ?_<;>simp[h0,h1,gC]
   ·have qQ:=hp
    first
     | rw[ID.mk.injEq]at qQ
     | (cases e;cases e';simp only[ID.mk.injEq,eQ.mk.injEq,not_and]at qQ)
     | (cases e;cases e';rename_i v _ v';cases v;cases v';simp only[Att.mk.injEq,Val.mk.injEq,not_and]at qQ)
     | skip
    simp[h0,h1,h5,hi,gJ,he,kL,gC,hp,qQ,-not_and]
    try (split<;>simp_all)
theorem s43(t u:Bool)(xs ys:List Att)(hl:xs.length≤1000000) :
  pcF D t43 [eL t 4 gC xs,eL u 4 gC ys]=some (.bool (decide (xs=ys))):=by
 unfold pcF
 rw[aJ _ _ _ _ (by simp[t43])]
 by_cases lU:xs.length=ys.length
 ·simp[t43,lU]
  refine(l43 t u xs ys hl lU xs ys 0 _ _ rfl rfl ?_ ?_ ?_).trans ?_<;>simp[lU]
 ·have:xs≠ys:=fun h=>lU (by rw[h])
  have h2:¬((xs.length:Int)=ys.length):=by omega
  simp[t43,h2,this]
end Go.Dm.Tc
/-
What functions of the library compute,part 6: an element taken out of a row of the call's own;elements taken out by a function.
-/
namespace Go.Dm.Tc
def lenOf:DV→Option Nat
 | .nsl=>some 0
 | .sl _ _ _ len=>some len
 | .isl _ _ xs=>some xs.length
 | _=>none
def yF(x lo hi mx:DV):Option DV :=
 match lenOf x with
 | some len=>match dP (some mx) 0 len with
  | some m=>match dP (some hi) 0 m with
   | some b=>match dP (some lo) 0 b with
    | some _=>some .unk
    | none=>none
   | none=>none
  | none=>none
 | none=>none
def vX(h:aA)(sz:Nat)(z x:DV):Option (DV×aA) :=
 match x with
 | .nsl=>some (.tup [],h)
 | .isl _ _ []=>some (.tup [],h)
 | .sl id eM off len=>if len=0 then some (.tup [],h)else match xR h sz (.sl id eM off len) (List.replicate len z)with|some (_,h')=>some (.tup [],h')|none=>none
 | _=>none
theorem yI(c:Nat→List DV→aA→Option (DV×aA))(h:aA)(env:Env)(x lo hi mx:Opd):cC c (.slice3 x lo hi mx) env h=dV h (yF (x.eval env) (lo.eval env) (hi.eval env) (mx.eval env)):=by
 simp only[cC,aK,yF,Mb,Option.map_some]
 cases x.eval env<;>try rfl
 all_goals
  simp only[lenOf]
  generalize dP (some (mx.eval env)) 0 _=A
  cases A with
  | none=>rfl
  | some m =>
   simp only
   cases dP (some (hi.eval env)) 0 m with
   | none=>rfl
   | some b =>
    simp only
    cases dP (some (lo.eval env)) 0 b with
    | none=>rfl
    | some a=>rfl
theorem uB(c:Nat→List DV→aA→Option (DV×aA))(h:aA)(env:Env)(sz:Nat)(z:DV)(x:Opd):cC c (.clear sz z x) env h=vX h sz z (x.eval env):=by
 simp only[cC,aK,vX]
 cases x.eval env<;>rfl
theorem Jd{id sz off len lo hi:Nat}(h1:lo≤hi)(h2:hi≤len):yF (.sl id sz off len) (.int .i64 (lo:Int)) (.int .i64 (hi:Int)) (.int .i64 (len:Int))=some .unk:=by
 simp only[yF,lenOf]
 rw[jM _ _ _ _ (Nat.le_refl _)]
 simp only
 rw[jM _ _ _ _ h2]
 simp only
 rw[jM _ _ _ _ h1]
theorem rH{h:aA}{id ety sz off len:Nat}{xs:List DV}{cap:Option Nat}{z:DV}(hg:h.get id=some (.arr ety sz xs cap))(hl:off+len≤xs.length)(aL:h.lim≤id)(h0:len≠0) :
  vX h sz z (.sl id sz off len)=some (.tup [],h.set id (.arr ety sz (dD xs (List.replicate len z) off) cap)):=by
 simp[vX,h0,hg,hl,aL]
theorem OE(X:List DV)(i:Nat)(hi:i+1<X.length):dD X (X.drop (i+1)) i=(X.take i++X.drop (i+1))++X.drop (X.length-1):=by
 unfold dD
 rw[List.length_drop]
 congr 2
 omega
theorem Ja(A B ys:List DV):dD (A++B) ys A.length=A++(ys++B.drop ys.length):=by
 unfold dD
 rw[List.take_left' rfl,List.append_assoc,List.drop_append]
 simp
theorem s158(lo:Nat)(h:aA)(v:DV)(xs:List bG)(i:Nat)(ho:Own lo h v 93 4 (xs.map aG))(hi:i<xs.length)(hl:xs.length≤1000000)(wf:WF h)(dS:lo≤h.n) :
  ∃ v' h',fc D 158 [v,.int .i64 (i:Int),.int .i64 ((i:Int)+1)] h=some (v',h')∧OwnR lo h' v' 93 4 ((xs.take i++xs.drop (i+1)).map aG)∧Ext lo h h'∧iF 93 h h':=by
 rw[e158]
 cases ho with
 | nil hv hx =>
  have Ao:xs=[]:=List.map_eq_nil_iff.1 hx
  subst Ao
  simp at hi
 | arr id hv hg Dx lO =>
  subst hv
  have bC:=bB hg
  have hb3:yF (.sl id 4 0 xs.length) (.int .i64 (i:Int)) (.int .i64 ((i:Int)+1)) (.int .i64 (xs.length:Int))=some .unk:=Jd (hi:=i+1) (by omega) (by omega)
  have eG:¬((i:Int)=(i:Int)+1):=by omega
  rw[aJ _ _ _ _ (by simp[CC])]
  by_cases hend:i+1=xs.length
  ·have h1:i+1≤xs.length:=by omega
   have e2:xs.length-(i+1)=0:=by omega
   have e3:List.drop (i+1) xs=[]:=List.drop_eq_nil_of_le (by omega)
   have e4:xs.length-i=1:=by omega
   have hn0:(i:Int)≤(xs.length:Int):=by omega
   have P7:∀z,vX h 4 z (.sl id 4 i 1)=some (.tup [],h.set id (.arr 93 4 (dD (xs.map aG) [z] i) none)):=fun z=>rH (len:=1) hg (by simp;omega) Dx (by decide)
   have FM:aY h 93 4 48 (.sl id 4 0 i) []=some (.sl id 4 0 i,h):=rfl
   have gJ:i≤xs.length:=by omega
   simp[CC,yI,uB,hb3,eG,hg,h1,e2,e3,e4,P7,FM,gJ]
   refine⟨_,_,⟨rfl,rfl⟩,.arr id [(.agg [.int .i64 0,.int .i64 0,.nsl,.int .i64 0])] none (by simp;omega) ?_ Dx lO,(Ext.refl dS wf).set lO bC,(iF.refl _ _).set wf hg bC⟩
   rw[bY wf bC,if_pos rfl]
   simp[dD]
   omega
  ·have h1:i+1≤xs.length:=by omega
   have h2:i+1<(xs.map aG).length:=by simp;omega
   have e1:List.take (xs.length-(i+1)) (List.drop (i+1) (List.map aG xs))=List.drop (i+1) (List.map aG xs):=List.take_of_length_le (by simp)
   have e5:i+1+(xs.length-(i+1))≤xs.length:=by omega
   have e6:i+(xs.length-(i+1))=xs.length-1:=by omega
   have e7:xs.length-(xs.length-1)=1:=by omega
   have gJ:i≤xs.length:=by omega
   have hq:xs.length-1≤xs.length:=by omega
   obtain⟨H,hH⟩:∃ H,H=h.set id (.arr 93 4 ((xs.map aG).take i++(xs.map aG).drop (i+1)++(xs.map aG).drop (xs.length-1)) none):=⟨_,rfl⟩
   have FM:aY h 93 4 48 (.sl id 4 0 i) (List.drop (i+1) (List.map aG xs))=some (.sl id 4 0 (xs.length-1),H):=by
    rw[kO hg (by simp;omega) Dx (by simp;omega) (by decide) (by simp;omega),OE _ _ h2,hH]
    simp[e6]
   have gH:H.get id=some (.arr 93 4 ((xs.map aG).take i++(xs.map aG).drop (i+1)++(xs.map aG).drop (xs.length-1)) none):=by rw[hH,bY wf bC,if_pos rfl]
   have lH:H.lim=h.lim:=by rw[hH];rfl
   have wH:WF H:=by rw[hH];exact wf.set
   have nH:H.n=h.n:=by rw[hH];rfl
   have Xy:(List.take i (xs.map aG)++List.drop (i+1) (xs.map aG)).length=xs.length-1:=by simp;omega
   have P7:∀z,vX H 4 z (.sl id 4 (xs.length-1) 1)=some (.tup [],H.set id (.arr 93 4 (dD ((xs.map aG).take i++(xs.map aG).drop (i+1)++(xs.map aG).drop (xs.length-1)) [z] (xs.length-1)) none)):=fun z=>rH (len:=1) gH (by simp;omega) (by rw[lH];exact Dx) (by decide)
   have Bt:IntKind.i64.wrap ((xs.length-1:Nat):Int)=((xs.length-1:Nat):Int):=aT (by omega) (by omega)
   have A9:Jc 4 4 id 0 (xs.length-1) (some (.int .i64 ((xs.length-1:Nat):Int))) (some (.int .i64 ((xs.length:Nat):Int))) (H.get id)=some (.sl id 4 (xs.length-1) 1):=by
    have hL:(List.take i (xs.map aG)++List.drop (i+1) (xs.map aG)++List.drop (xs.length-1) (xs.map aG)).length=xs.length:=by simp;omega
    rw[gH,wS,hL,if_pos ⟨rfl,rfl,by omega⟩,jM _ _ _ _ (by omega),wR,jM _ _ _ _ (by omega),Ei]
    simp[e7]
   simp[CC,yI,uB,hb3,eG,hg,h1,e1,FM,gJ,A9,P7]
   refine⟨_,_,⟨rfl,rfl⟩,.arr id [(.agg [.int .i64 0,.int .i64 0,.nsl,.int .i64 0])] none (by simp;omega) ?_ ?_ lO,?_,?_⟩
   ·rw[bY wH (by rw[nH];exact bC),if_pos rfl]
    have:=Ja (List.take i (xs.map aG)++List.drop (i+1) (xs.map aG)) (List.drop (xs.length-1) (xs.map aG)) [(.agg [.int .i64 0,.int .i64 0,.nsl,.int .i64 0])]
    rw[Xy]at this
    rw[List.append_assoc]at this
    rw[this]
    simp
    omega
   ·show H.lim≤id
    rw[lH];exact Dx
   ·rw[hH]
    exact((Ext.refl dS wf).set lO bC).set lO (by exact bC)
   ·rw[hH]
    exact((iF.refl _ _).set wf hg bC).set wf.set hg (by exact bC)
theorem s198(lo:Nat)(h:aA)(v:DV)(xs:List aX)(i:Nat)(ho:Own lo h v 114 7 (xs.map aD))(hi:i<xs.length)(hl:xs.length≤1000000)(wf:WF h)(dS:lo≤h.n) :
  ∃ v' h',fc D 198 [v,.int .i64 (i:Int),.int .i64 ((i:Int)+1)] h=some (v',h')∧OwnR lo h' v' 114 7 ((xs.take i++xs.drop (i+1)).map aD)∧Ext lo h h'∧iF 114 h h':=by
 rw[e198]
 cases ho with
 | nil hv hx =>
  have Ao:xs=[]:=List.map_eq_nil_iff.1 hx
  subst Ao
  simp at hi
 | arr id hv hg Dx lO =>
  subst hv
  have bC:=bB hg
  have hb3:yF (.sl id 7 0 xs.length) (.int .i64 (i:Int)) (.int .i64 ((i:Int)+1)) (.int .i64 (xs.length:Int))=some .unk:=Jd (hi:=i+1) (by omega) (by omega)
  have eG:¬((i:Int)=(i:Int)+1):=by omega
  rw[aJ _ _ _ _ (by simp[BR])]
  by_cases hend:i+1=xs.length
  ·have h1:i+1≤xs.length:=by omega
   have e2:xs.length-(i+1)=0:=by omega
   have e3:List.drop (i+1) xs=[]:=List.drop_eq_nil_of_le (by omega)
   have e4:xs.length-i=1:=by omega
   have hn0:(i:Int)≤(xs.length:Int):=by omega
   have P7:∀z,vX h 7 z (.sl id 7 i 1)=some (.tup [],h.set id (.arr 114 7 (dD (xs.map aD) [z] i) none)):=fun z=>rH (len:=1) hg (by simp;omega) Dx (by decide)
   have FM:aY h 114 7 72 (.sl id 7 0 i) []=some (.sl id 7 0 i,h):=rfl
   have gJ:i≤xs.length:=by omega
   simp[BR,yI,uB,hb3,eG,hg,h1,e2,e3,e4,P7,FM,gJ]
   refine⟨_,_,⟨rfl,rfl⟩,.arr id [(.agg [.int .i64 0,.int .i64 0,.int .i64 0,.int .i64 0,.nsl,.int .i64 0,.bool false])] none (by simp;omega) ?_ Dx lO,(Ext.refl dS wf).set lO bC,(iF.refl _ _).set wf hg bC⟩
   rw[bY wf bC,if_pos rfl]
   simp[dD]
   omega
  ·have h1:i+1≤xs.length:=by omega
   have h2:i+1<(xs.map aD).length:=by simp;omega
   have e1:List.take (xs.length-(i+1)) (List.drop (i+1) (List.map aD xs))=List.drop (i+1) (List.map aD xs):=List.take_of_length_le (by simp)
   have e5:i+1+(xs.length-(i+1))≤xs.length:=by omega
   have e6:i+(xs.length-(i+1))=xs.length-1:=by omega
   have e7:xs.length-(xs.length-1)=1:=by omega
   have gJ:i≤xs.length:=by omega
   have hq:xs.length-1≤xs.length:=by omega
   obtain⟨H,hH⟩:∃ H,H=h.set id (.arr 114 7 ((xs.map aD).take i++(xs.map aD).drop (i+1)++(xs.map aD).drop (xs.length-1)) none):=⟨_,rfl⟩
   have FM:aY h 114 7 72 (.sl id 7 0 i) (List.drop (i+1) (List.map aD xs))=some (.sl id 7 0 (xs.length-1),H):=by
    rw[kO hg (by simp;omega) Dx (by simp;omega) (by decide) (by simp;omega),OE _ _ h2,hH]
    simp[e6]
   have gH:H.get id=some (.arr 114 7 ((xs.map aD).take i++(xs.map aD).drop (i+1)++(xs.map aD).drop (xs.length-1)) none):=by rw[hH,bY wf bC,if_pos rfl]
   have lH:H.lim=h.lim:=by rw[hH];rfl
   have wH:WF H:=by rw[hH];exact wf.set
   have nH:H.n=h.n:=by rw[hH];rfl
   have Xy:(List.take i (xs.map aD)++List.drop (i+1) (xs.map aD)).length=xs.length-1:=by simp;omega
   have P7:∀z,vX H 7 z (.sl id 7 (xs.length-1) 1)=some (.tup [],H.set id (.arr 114 7 (dD ((xs.map aD).take i++(xs.map aD).drop (i+1)++(xs.map aD).drop (xs.length-1)) [z] (xs.length-1)) none)):=fun z=>rH (len:=1) gH (by simp;omega) (by rw[lH];exact Dx) (by decide)
   have Bt:IntKind.i64.wrap ((xs.length-1:Nat):Int)=((xs.length-1:Nat):Int):=aT (by omega) (by omega)
   have A9:Jc 7 7 id 0 (xs.length-1) (some (.int .i64 ((xs.length-1:Nat):Int))) (some (.int .i64 ((xs.length:Nat):Int))) (H.get id)=some (.sl id 7 (xs.length-1) 1):=by
    have hL:(List.take i (xs.map aD)++List.drop (i+1) (xs.map aD)++List.drop (xs.length-1) (xs.map aD)).length=xs.length:=by simp;omega
    rw[gH,wS,hL,if_pos ⟨rfl,rfl,by omega⟩,jM _ _ _ _ (by omega),wR,jM _ _ _ _ (by omega),Ei]
    simp[e7]
   simp[BR,yI,uB,hb3,eG,hg,h1,e1,FM,gJ,A9,P7]
   refine⟨_,_,⟨rfl,rfl⟩,.arr id [(.agg [.int .i64 0,.int .i64 0,.int .i64 0,.int .i64 0,.nsl,.int .i64 0,.bool false])] none (by simp;omega) ?_ ?_ lO,?_,?_⟩
   ·rw[bY wH (by rw[nH];exact bC),if_pos rfl]
    have:=Ja (List.take i (xs.map aD)++List.drop (i+1) (xs.map aD)) (List.drop (xs.length-1) (xs.map aD)) [(.agg [.int .i64 0,.int .i64 0,.int .i64 0,.int .i64 0,.nsl,.int .i64 0,.bool false])]
    rw[Xy]at this
    rw[List.append_assoc]at this
    rw[this]
    simp
    omega
   ·show H.lim≤id
    rw[lH];exact Dx
   ·rw[hH]
    exact((Ext.refl dS wf).set lO bC).set lO (by exact bC)
   ·rw[hH]
    exact((iF.refl _ _).set wf hg bC).set wf.set hg (by exact bC)
end Go.Dm.Tc
/-
What functions of the library compute,part 7: elements taken out by a function.
-/
namespace Go.Dm.Tc
def B3:DV:=.agg [.int .i64 0,.int .i64 0,.int .i64 0,.int .i64 0,.nsl,.int .i64 0,.bool false]
theorem l159(lo:Nat)(h:aA)(xs:List aX)(id g:Nat)(cap:List DV)(p:aX→Bool)(hl:xs.length≤1000000)(lO:lo≤id)(aL:h.lim≤id)(bC:id<h.n)(dS:lo≤h.n)
  (Ew:∃ s ys c,h.get id=some (.arr 114 s ys c))
  (UV:∀x∈xs,∀h',Ext lo h h'→fc D g ([aD x]++cap) h'=some (.bool (p x),h')) :
  ∀(rest:List aX) (j k:Nat) (kept zs:List aX) (f:cT) (H:aA),xs.drop j=rest→k<j→kept.length=k→zs.length=xs.length→zs.take k=kept→zs.drop j=rest→k<xs.length →
   H.get id=some (.arr 114 7 (zs.map aD) none)→f 0=.sl id 7 0 xs.length→f 1=.func g cap→f 5=.int .i64 k→f 6=.int .i64 j→Ext lo h H→iF 114 h H→h.n≤H.n →
  ∃ v' h',fin [.t 4] (run D 42 [.block 0,.seq E3] (.loop Pv) f H)=some (v',h')∧OwnR lo h' v' 114 7 ((kept++rest.filter (fun x=>!p x)).map aD)∧Ext lo h h'∧iF 114 h h':=by
 obtain⟨s0,ys0,c0,Ew⟩:=Ew
 intro rest
 induction rest with
 | nil =>
  intro j k kept zs f H hd hkj Of ZJ Gy hdj PF hg h0 h1 h5 h6 hx hK hn
  have hi:=bH hd
  have hnl:¬(j<xs.length):=by omega
  have hkl':k≤xs.length:=by omega
  have hd0:xs.length-k≠0:=by omega
  have P7:∀z,vX H 7 z (.sl id 7 k (xs.length-k))=some (.tup [],H.set id (.arr 114 7 (dD (zs.map aD) (List.replicate (xs.length-k) z) k) none)):=fun z=>rH hg (by simp;omega) (by rw[hx.lim];exact aL) hd0
  have hltH:id<H.n:=by omega
  have hspl:∀zs':List DV,zs'.length=xs.length-k→dD (List.map aD zs) zs' k=kept.map aD++zs':=fun zs' hz=>by
   unfold dD
   rw[←List.map_take,Gy,List.drop_eq_nil_of_le (by simp;omega),List.append_nil]
  have A9:(List.map aD kept++List.replicate (xs.length-k) B3).length=xs.length:=by simp;omega
  rw[aC Pv.eq_1]
  simp[E3,h0,h5,h6,hnl,hg,ZJ,hkl',uB,P7,hx.wf,hltH,hspl]
  rw[show(DV.agg [.int .i64 0,.int .i64 0,.int .i64 0,.int .i64 0,.nsl,.int .i64 0,.bool false])=B3 from rfl]
  have Sw:k≤kept.length+(xs.length-k):=by omega
  have hkl3:xs.length≤kept.length+(xs.length-k):=by omega
  simp[Sw,hkl3]
  refine⟨_,_,⟨rfl,rfl⟩,.arr id (List.replicate (xs.length-k) B3) none (by simp;omega) ?_ ?_ lO,?_,?_⟩
  ·rw[bY hx.wf hltH,if_pos rfl]
  ·show H.lim≤id
   rw[hx.lim];exact aL
  ·exact hx.set lO hltH
  ·exact hK.set hx.wf Ew hltH
 | cons e rest ih =>
  intro j k kept zs f H hd hkj Of ZJ Gy hdj PF hg h0 h1 h5 h6 hx hK hn
  obtain⟨hi,he,eJ⟩:=bR hd
  have hltH:id<H.n:=by omega
  have Su:¬id=H.n:=by omega
  have hlimH:H.lim≤H.n:=by rw[hx.lim];omega
  have hlimI:H.lim≤id:=by rw[hx.lim];exact aL
  obtain⟨hjy,hyj,hdj'⟩:=bR hdj
  have hyj':(zs.map aD)[j]?=some (aD e):=by rw[List.getElem?_map,List.getElem?_eq_getElem hjy,hyj];rfl
  have sL:=UV e (by rw[←he];exact List.getElem_mem hi)
  simp only[aD]at sL
  have Z7:=hx.push (o:=.arr 114 7 [aD e] (some 1))
  have hgx1:=sL _ Z7
  simp only[aD,List.cons_append,List.nil_append]at hgx1
  simp only[aD,List.getElem?_map]at hyj'
  rw[aC Pv.eq_1]
  have xI:∀q:Nat,q<xs.length→bQ 7 (.sl id 7 0 xs.length) (.int .i64 (q:Int))=some (.ptr id 7 q 0):=fun q hq=>by simp[bQ,asI,hq]
  have hkn':k<zs.length:=by omega
  have UQ:(zs.map aD)[k]?=some (aD zs[k]):=by rw[List.getElem?_map,List.getElem?_eq_getElem hkn'];rfl
  simp only[aD,List.getElem?_map]at UQ
  cases hp:p e with
  | true =>
   rw[hp]at hgx1
   simp[h0,h1,h5,h6,hi,xI,hg,hyj',hlimH,hgx1]
   rw[aT (by omega) (by omega)]
   have hf:(e::rest).filter (fun x=>!p x)=rest.filter (fun x=>!p x):=by simp[hp]
   rw[hf]
   rw[←List.map_append]
   refine ih (j+1) k kept zs _ (H.push (.arr 114 7 [aD e] (some 1))) eJ (by omega) Of ZJ Gy hdj' PF ?_ ?_ ?_ ?_ ?_ Z7 hK.push (by show h.n≤H.n+1;omega)
   ·rw[cM,if_neg Su];exact hg
   all_goals simp[h0,h1,h5]
  | false =>
   rw[hp]at hgx1
   have Z8:IntKind.i64.wrap ((k:Int)+1)=(k:Int)+1:=aT (by omega) (by omega)
   have US:IntKind.i64.wrap ((j:Int)+1)=(j:Int)+1:=aT (by omega) (by omega)
   have hf:(e::rest).filter (fun x=>!p x)=e::rest.filter (fun x=>!p x):=by simp[hp]
   rw[hf,List.append_cons]
   generalize sK:kept++[e]=kept'
   simp[h0,h1,h5,h6,hi,xI,hg,hyj',hlimH,hgx1,PF,UQ,hlimI,Su,Z8,US,turn,hltH]
   rw[←List.map_append]
   have Ap:(List.map aD zs).set k (DV.agg [.int .i64 e.tree.aW,.int .i64 e.tree.seq,.int .i64 e.sub.aW,.int .i64 e.sub.seq,bE e.pred,.int .i64 e.bK,.bool e.up])=(zs.set k e).map aD:=by rw[List.map_set];rfl
   rw[Ap]
   refine ih (j+1) (k+1) kept' (zs.set k e) _ ((H.set id (.arr 114 7 ((zs.set k e).map aD) none)).push (.arr 114 7 [aD e] (some 1))) eJ (by omega) (by rw[←sK];simp[Of]) (by simp[ZJ]) ?_ ?_ (by omega) ?_ ?_ ?_ ?_ ?_ ((hx.set lO hltH).push) ((hK.set hx.wf Ew hltH).push) (by show h.n≤H.n+1;omega)
   ·rw[←sK,List.take_succ_eq_append_getElem (by simp;omega),List.take_set_of_le (by omega),Gy];simp
   ·rw[List.drop_set_of_lt (by omega)];exact hdj'
   ·rw[cM,if_neg (by exact Su),bY hx.wf hltH,if_pos rfl]
   all_goals simp[h0,h1]
theorem FH{α:Type}{p:α→Bool}{xs:List α}{i:Nat}(h:xs.findIdx? p=some i):i<xs.length∧(xs.filter fun x=>!p x)=xs.take i++(xs.drop (i+1)).filter fun x=>!p x:=by
 obtain⟨hi,hp,hq⟩:=List.findIdx?_eq_some_iff_getElem.1 h
 refine⟨hi,?_⟩
 have h1:(xs.take i).filter (fun x=>!p x)=xs.take i:=by
  rw[List.filter_eq_self]
  intro a ha
  obtain⟨j,hj,rfl⟩:=List.mem_iff_getElem.1 ha
  rw[List.length_take]at hj
  have:=hq j (by omega)
  simpa using this
 have h2:(xs.drop i).filter (fun x=>!p x)=(xs.drop (i+1)).filter (fun x=>!p x):=by
  rw[List.drop_eq_getElem_cons hi,List.filter_cons,hp];simp
 calc xs.filter (fun x=>!p x)=(xs.take i++xs.drop i).filter (fun x=>!p x):=by rw[List.take_append_drop]
  _=_:=by rw[List.filter_append,h1,h2]
theorem NB{α:Type}{p:α→Bool}{xs:List α}(h:xs.findIdx? p=none):(xs.filter fun x=>!p x)=xs:=by
 rw[List.findIdx?_eq_none_iff]at h
 rw[List.filter_eq_self]
 intro a ha
 simp[h a ha]
theorem s159(lo:Nat)(h:aA)(v:DV)(xs:List aX)(g:Nat)(cap iM:List DV)(p:aX→Bool)(ho:Own lo h v 114 7 (xs.map aD))(hl:xs.length≤1000000)(wf:WF h)(dS:lo≤h.n)
  (hr:resolve true h 200 (.func g cap)=some (.func g iM))
  (hp1:∀x∈xs,∀h',fc D g ([aD x]++iM) h'=some (.bool (p x),h'))
  (UV:∀x∈xs,∀h',Ext lo h h'→fc D g ([aD x]++cap) h'=some (.bool (p x),h')) :
  ∃ v' h',fc D 159 [v,.func g cap] h=some (v',h')∧OwnR lo h' v' 114 7 ((xs.filter fun x=>!p x).map aD)∧Ext lo h h'∧iF 114 h h':=by
 have Dy:=fun t=>s139 t xs g iM p hp1 hl
 have hrv:=ho.resolve (n:=200) true (fun y _=>(cA y).1) (by decide)
 rw[e159,aJ _ _ _ _ (by simp[CB])]
 cases hf:xs.findIdx? p with
 | none =>
  rw[hf]at Dy
  simp[CB,i9,-Ck,hr,hrv,Dy,gV]
  refine⟨_,_,⟨rfl,rfl⟩,?_,.refl dS wf,.refl _ _⟩
  rw[NB hf]
  exact ho.toR
 | some i =>
  rw[hf]at Dy
  obtain⟨hi,O6⟩:=FH hf
  have eG:¬((i:Int)=-1):=by omega
  have hw:IntKind.i64.wrap ((i:Int)+1)=(i:Int)+1:=aT (by omega) (by omega)
  cases ho with
  | nil hv hx =>
   have Ao:xs=[]:=List.map_eq_nil_iff.1 hx
   subst Ao
   simp at hi
  | arr id hv hg Dx lO =>
   subst hv
   have bC:=bB hg
   simp only[List.length_map]at hrv
   simp[CB,i9,-Ck,-kY,hr,hrv,Dy,gV,eG,hw]
   rw[O6]
   refine l159 lo h xs id g cap p hl lO Dx bC dS ⟨_,_,_,hg⟩ UV _ (i+1) i (xs.take i) xs _ h rfl (by omega) (by simp;omega) rfl rfl rfl hi hg ?_ ?_ ?_ ?_ (.refl dS wf) (.refl _ _) (Nat.le_refl _)<;>simp
end Go.Dm.Tc
/-
What functions of the program compute,part 1: how advertisements are ordered and found.
-/
namespace Go.Dm.Tc
theorem RC(a:Int):pcF D BY [.int .i64 a]=some (.bool false):=by
 unfold pcF
 rw[aJ _ _ _ _ (by simp[BY])]
 simp[BY]
def Zh(a b:Int):Int:=if a<b then -1 else if b<a then 1 else 0
theorem s134(a b:Int):pcF D Uz [.int .i64 a,.int .i64 b]=some (.int .i64 (Zh a b)):=by
 unfold pcF
 rw[aJ _ _ _ _ (by simp[Uz])]
 by_cases h1:a<b
 ·simp[Uz,TT,RC,h1,Zh]
 ·by_cases h2:b<a
  ·simp[Uz,TT,RC,h1,h2,Zh]
  ·simp[Uz,TT,RC,h1,h2,Zh]
def orI(a b:Int):Int:=if a=0 then b else a
theorem s77(t:Bool)(a b:Int):pcF D t77 [.isl t 1 [.int .i64 a,.int .i64 b]]=some (.int .i64 (orI a b)):=by
 unfold pcF
 rw[aJ _ _ _ _ (by simp[t77])]
 simp[t77]
 rw[aC U7.eq_1]
 by_cases h1:a=0
 ·simp[h1,orI,bQ,asI]
  rw[aC U7.eq_1]
  by_cases h2:b=0
  ·simp[h2,bQ,asI]
   rw[aC U7.eq_1]
   simp[UK]
  ·simp[h2,bQ,asI]
 ·simp[h1,orI,bQ,asI]
def bV(a b:ID):Int:=orI (Zh a.aW b.aW) (Zh a.seq b.seq)
theorem s78(a b c d:Int):pcF D t78 [.agg [.int .i64 a,.int .i64 b],.agg [.int .i64 c,.int .i64 d]]=some (.int .i64 (bV ⟨a,b⟩ ⟨c,d⟩)):=by
 unfold pcF
 rw[aJ _ _ _ _ (by simp[t78])]
 simp[t78,e134,s134,e77,mkIsl,s77,bV]
def kK(a b:ID):Bool:=decide (bV a b<0)
theorem s70(a b c d:Int):pcF D t70 [.agg [.int .i64 a,.int .i64 b],.agg [.int .i64 c,.int .i64 d]]=some (.bool (kK ⟨a,b⟩ ⟨c,d⟩)):=by
 unfold pcF
 rw[aJ _ _ _ _ (by simp[t70])]
 simp[t70,e78,s78,kK]
theorem s181(a b:Int)(p:bJ)(q c d:Int):pcF D BV [.agg [.int .i64 a,.int .i64 b,bE p,.int .i64 q],.agg [.int .i64 c,.int .i64 d]]=some (.int .i64 (bV ⟨a,b⟩ ⟨c,d⟩)):=by
 unfold pcF
 rw[aJ _ _ _ _ (by simp[BV])]
 simp[BV,e78,s78]
def eE(l:List ID):Prop:=l.Pairwise fun a b=>bV a b<0
theorem iV{a b:ID}:bV a b<0↔a.aW<b.aW∨a.aW=b.aW∧a.seq<b.seq:=by
 unfold bV orI Zh
 split<;>split<;>(try split)<;>(try split)<;>omega
theorem uS{a b:ID}:bV a b=0↔a=b:=by
 cases a;cases b
 simp only[ID.mk.injEq]
 unfold bV orI Zh
 simp only
 split<;>split<;>(try split)<;>(try split)<;>omega
theorem Gl{a b c:ID}(h1:bV a b<0)(h2:bV b c<0):bV a c<0:=by
 rw[iV]at *;omega
theorem GJ(a b:ID):bV a b<0∨a=b∨bV b a<0:=by
 rw[iV,iV]
 cases a;cases b
 simp only[ID.mk.injEq]
 omega
theorem rP{α:Type}{key:α→ID}{xs:List α}(h:eE (xs.map key))(x:ID):∀i j (hi:i<xs.length) (hj:j<xs.length),i≤j→bV (key xs[j]) x<0→bV (key xs[i]) x<0:=by
 intro i j hi hj SY bC
 rcases Nat.lt_or_eq_of_le SY with hl|rfl
 ·have:=List.pairwise_iff_getElem.1 h i j (by simpa using hi) (by simpa using hj) hl
  simp only[List.getElem_map]at this
  exact Gl this bC
 ·exact bC
theorem s136(x0 x1 x2 x4 x5:DV)(t:Bool)(l:List ID)(c d:Int)(hr:eE l)(hl:l.length≤1000000) :
  pcF D CO [.agg [x0,x1,x2,eL t 2 eID l,x4,x5],.agg [.int .i64 c,.int .i64 d]]=some (.tup [.int .i64 (aV (fun a=>bV a ⟨c,d⟩) l),.bool (eZ (fun a=>bV a ⟨c,d⟩) l)]):=by
 have hb:=s178 t l c d 78 [] (fun a=>bV a ⟨c,d⟩) (fun x _ h=>by simp[eID,e78,s78]) hl (by
  have:=rP (key:=fun a:ID=>a) (xs:=l) (by simpa using hr) ⟨c,d⟩
  exact this)
 unfold pcF
 rw[aJ _ _ _ _ (by simp[CO])]
 simp[CO,e178,hb,aI]
theorem DG(x0 x1 x3 x4 x5:DV)(t:Bool)(l:List bG)(c d:Int)(hr:eE (l.map (·.id)))(hl:l.length≤1000000) :
  pcF D CM [.agg [x0,x1,eL t 4 aG l,x3,x4,x5],.agg [.int .i64 c,.int .i64 d]]=some (.tup [.int .i64 (aV (fun a=>bV a.id ⟨c,d⟩) l),.bool (eZ (fun a=>bV a.id ⟨c,d⟩) l)]):=by
 have hb:=s180 t l c d 181 [] (fun a=>bV a.id ⟨c,d⟩) (fun x _ h=>by simp[aG,e181,s181]) hl (rP hr ⟨c,d⟩)
 unfold pcF
 rw[aJ _ _ _ _ (by simp[CM])]
 simp[CM,e180,hb,aI]
end Go.Dm.Tc
/-
What functions of the program compute,part 2: a broker with rows of its own;an advertisement learned.
-/
namespace Go.Dm.Tc
theorem s151(h:aA)(me:Int)(t1 t2 t3 t4 t5:Bool)(aM:List Int)(adv:List bG)(seen:List ID)(ent:List aX)(own:List fT)
  (l1:aM.length≤1000000) (l2:adv.length≤1000000) (l3:seen.length≤1000000) (l4:ent.length≤1000000) (l5:own.length≤1000000) (wf:WF h) (aL:h.lim≤h.n) :
  ∃ v1 v2 v3 v4 v5 h',fc D 151 [.agg [.int .i64 me,eL t1 1 bO aM,eL t2 4 aG adv,eL t3 2 eID seen,eL t4 7 aD ent,eL t5 3 cP own]] h=some (.agg [.int .i64 me,v1,v2,v3,v4,v5],h') ∧
   Own h.n h' v1 3 1 (aM.map bO)∧Own h.n h' v2 93 4 (adv.map aG)∧Own h.n h' v3 40 2 (seen.map eID)∧Own h.n h' v4 114 7 (ent.map aD)∧Own h.n h' v5 98 3 (own.map cP)∧Ext h.n h h':=by
 rw[e151,aJ _ _ _ _ (by simp[JM])]
 have hm:max (h.n+1+1) h.lim=h.n+2:=by omega
 simp[JM,e112,hm]
 generalize hA:dN _ _ _ _ _=A
 obtain⟨v1,H1,rfl,o1,x1,y1⟩:=Do (lo:=h.n+2) hA (qF ..) wf.push.push (by simp) (by simp) (by simp;omega) (by simp;omega) (by decide)
 have Ao:Ext h.n h ((h.push (.arr 36 6 [.agg [.int .i64 me,eL t1 1 bO aM,eL t2 4 aG adv,eL t3 2 eID seen,eL t4 7 aD ent,eL t5 3 cP own]] (some 1))).push (.arr 36 6 [.agg [.int .i64 0,.nsl,.nsl,.nsl,.nsl,.nsl]] (some 1))):=(Ext.refl (Nat.le_refl _) wf).push.push
 have z1:=Ao.trans (x1.lower (by omega:h.n≤h.n+2))
 clear hA
 simp at x1 y1 z1 o1
 generalize hK1:wl H1 _=K1 at *
 have a1:=x1.get h.n (by omega)
 have b1:=x1.get (h.n+1) (by omega)
 have q1:=x1.lim
 have w1:=x1.wf
 have n1:=x1.le
 simp at a1 b1 q1
 simp[hK1,a1,q1,hm,e185]
 generalize hA:dN _ _ _ _ _=A
 obtain⟨v2,H2,rfl,o2,x2,y2⟩:=Do (lo:=h.n+2) hA (qF ..) w1 n1 n1 (by omega) (by simp;omega) (by decide)
 rw[q1]at o2 x2 y2
 have z2:=z1.trans (x2.lower (by omega:h.n≤h.n+2))
 replace o1:=o1.ext y2
 clear hA
 generalize hK2:wl H2 _=K2 at *
 have a2:=x2.get h.n (by omega)
 have b2:=x2.get (h.n+1) (by omega)
 have q2:=x2.lim
 have w2:=x2.wf
 have n2:=x2.le
 rw[a1]at a2
 rw[b1]at b2
 rw[q1]at q2
 simp[hK2,a2,q1,q2,hm,e186]
 generalize hA:dN _ _ _ _ _=A
 obtain⟨v3,H3,rfl,o3,x3,y3⟩:=Do (lo:=h.n+2) hA (qF ..) w2 n2 n2 (by omega) (by simp;omega) (by decide)
 rw[q2]at o3 x3 y3
 have z3:=z2.trans (x3.lower (by omega:h.n≤h.n+2))
 replace o1:=o1.ext y3
 replace o2:=o2.ext y3
 clear hA
 generalize hK3:wl H3 _=K3 at *
 have a3:=x3.get h.n (by omega)
 have b3:=x3.get (h.n+1) (by omega)
 have q3:=x3.lim
 have w3:=x3.wf
 have n3:=x3.le
 rw[a2]at a3
 rw[b2]at b3
 rw[q2]at q3
 simp[hK3,a3,q2,q3,hm,i7]
 generalize hA:dN _ _ _ _ _=A
 obtain⟨v4,H4,rfl,o4,x4,y4⟩:=Do (lo:=h.n+2) hA (qF ..) w3 n3 n3 (by omega) (by simp;omega) (by decide)
 rw[q3]at o4 x4 y4
 have z4:=z3.trans (x4.lower (by omega:h.n≤h.n+2))
 replace o1:=o1.ext y4
 replace o2:=o2.ext y4
 replace o3:=o3.ext y4
 clear hA
 generalize hK4:wl H4 _=K4 at *
 have a4:=x4.get h.n (by omega)
 have b4:=x4.get (h.n+1) (by omega)
 have q4:=x4.lim
 have w4:=x4.wf
 have n4:=x4.le
 rw[a3]at a4
 rw[b3]at b4
 rw[q3]at q4
 simp[hK4,a4,q3,q4,hm,e187]
 generalize hA:dN _ _ _ _ _=A
 obtain⟨v5,K5,rfl,o5,x5,y5⟩:=yR (lo:=h.n+2) (qF ..) w4 n4 (by omega) (by simp;omega) (by decide) hA
 have z5:=z4.trans (x5.lower (by omega:h.n≤h.n+2))
 replace o1:=o1.ext y5
 replace o2:=o2.ext y5
 replace o3:=o3.ext y5
 replace o4:=o4.ext y5
 clear hA
 have a5:=x5.get h.n (by omega)
 have b5:=x5.get (h.n+1) (by omega)
 have q5:=x5.lim
 have w5:=x5.wf
 have n5:=x5.le
 rw[a4]at a5
 rw[b4]at b5
 rw[q4]at q5
 have c5:h.n<K5.n:=by omega
 have d5:h.n+1<K5.n:=by omega
 have f5:h.lim≤h.n+1:=by omega
 simp[a5,b5,q5,w5,c5,d5,f5,aL,o1.bD,o2.bD,o3.bD,o4.bD,o5.bD,o1.aP,o2.aP,o3.aP,o4.aP,o5.aP,turn]
 refine⟨v1,v2,v3,v4,v5,_,⟨⟨rfl,rfl,rfl,rfl,rfl⟩,rfl⟩,?_,?_,?_,?_,?_,?_⟩
 ·exact((o1.aU w5 (by omega) c5).aU w5.set (by omega) d5).lower (by omega)
 ·exact((o2.aU w5 (by omega) c5).aU w5.set (by omega) d5).lower (by omega)
 ·exact((o3.aU w5 (by omega) c5).aU w5.set (by omega) d5).lower (by omega)
 ·exact((o4.aU w5 (by omega) c5).aU w5.set (by omega) d5).lower (by omega)
 ·exact((o5.aU w5 (by omega) c5).aU w5.set (by omega) d5).lower (by omega)
 ·exact(z5.set (by omega) c5).set (by omega) d5
end Go.Dm.Tc
/-
What functions of the program compute,part 3: an advertisement learned,found.
-/
namespace Go.Dm.Tc
section
variable {α:Type} (key:α→ID)
def iS(a:α)(l:List α):List α:=l.take (aV (fun b=>bV (key b) (key a)) l)++a::l.drop (aV (fun b=>bV (key b) (key a)) l)
theorem Jk{l:List α}(h:eE (l.map key))(x:ID):(∀i (hi:i<l.length),i<aV (fun b=>bV (key b) x) l→bV (key l[i]) x<0)∧(∀i (hi:i<l.length),aV (fun b=>bV (key b) x) l≤i→¬bV (key l[i]) x<0):=by
 constructor
 ·intro i hi bC
  have:=List.not_of_lt_findIdx (p:=fun b=>!decide (bV (key b) x<0)) bC
  simpa using this
 ·intro i hi dH hc
  have hk:aV (fun b=>bV (key b) x) l<l.length:=Nat.lt_of_le_of_lt dH hi
  have h1:¬bV (key l[aV (fun b=>bV (key b) x) l]) x<0:=by
   have:=List.findIdx_getElem (p:=fun b=>!decide (bV (key b) x<0)) (w:=hk)
   unfold aV
   simpa using this
  exact h1 (rP h x _ _ hk hi dH hc)
theorem Cx{l:List α}(h:eE (l.map key))(x:ID):match l.find? (fun b=>key b=x)with
  | some a=>eZ (fun b=>bV (key b) x) l=true∧l[aV (fun b=>bV (key b) x) l]?=some a
  | none=>eZ (fun b=>bV (key b) x) l=false:=by
 obtain⟨r1,r2⟩:=Jk key h x
 have uJ:∀i j (hi:i<l.length) (hj:j<l.length),key l[i]=x→key l[j]=x→i=j:=by
  intro i j hi hj e1 e2
  rcases Nat.lt_trichotomy i j with bC|he|bC
  ·have:=List.pairwise_iff_getElem.1 h i j (by simpa using hi) (by simpa using hj) bC
   simp only[List.getElem_map,e1,e2]at this
   rw[iV]at this;omega
  ·exact he
  ·have:=List.pairwise_iff_getElem.1 h j i (by simpa using hj) (by simpa using hi) bC
   simp only[List.getElem_map,e1,e2]at this
   rw[iV]at this;omega
 cases hf:l.find? (fun b=>key b=x)with
 | some a =>
  have TD:key a=x:=by simpa using List.find?_some hf
  obtain⟨i,hi,xI⟩:=List.mem_iff_getElem.1 (List.mem_of_find?_eq_some hf)
  have hk:aV (fun b=>bV (key b) x) l=i:=by
   refine pK (Nat.le_of_lt hi) (fun q hq=>?_) (fun hq=>?_)
   ·have:=List.pairwise_iff_getElem.1 h q i (by simp;omega) (by simpa using hi) hq
    simp only[List.getElem_map,xI,TD]at this
    exact this
   ·rw[xI,TD,iV];omega
  have Ya:l[aV (fun b=>bV (key b) x) l]?=some a:=by rw[hk,List.getElem?_eq_getElem hi,xI]
  refine⟨?_,Ya⟩
  unfold eZ
  rw[Ya]
  simp only[TD]
  simp[uS]
 | none =>
  unfold eZ
  cases hg:l[aV (fun b=>bV (key b) x) l]? with
  | none=>rfl
  | some a =>
   have:key a≠x:=by
    have:=List.find?_eq_none.1 hf a (List.mem_of_getElem? hg)
    simpa using this
   simp only[decide_eq_false_iff_not]
   rw[uS];exact this
end
theorem SX{l:List ID}(hr:eE l)(x:ID):eZ (fun b=>bV b x) l=decide (x∈l):=by
 have hf:=Cx (fun a:ID=>a) (by simpa using hr) x
 cases hq:l.find? (fun a=>a=x)with
 | none =>
  rw[hq]at hf
  simp only at hf
  rw[hf]
  have:=List.find?_eq_none.1 hq
  symm
  simp only[decide_eq_false_iff_not]
  intro hm
  exact this x hm (by simp)
 | some a =>
  rw[hq]at hf
  rw[hf.1]
  have h1:a=x:=by simpa using List.find?_some hq
  have h2:=List.mem_of_find?_eq_some hq
  rw[h1]at h2
  simp[h2]
def gO(b:aH)(x:ID):Option bG:=b.aR.find? fun a=>a.id=x
def qA:bG:=⟨⟨0,0⟩,[],0⟩
def gK{α:Type}:Option α→Bool|some _=>true|none=>false
theorem s89(x0 x1 x3 x4 x5:DV)(t:Bool)(l:List bG)(c d:Int)(hr:eE (l.map (·.id)))(hl:l.length≤1000000)(f0:jP 20 x0)(f1:jP 20 x1)(f3:jP 20 x3)(f4:jP 20 x4)(f5:jP 20 x5) :
  pcF D t89 [.agg [x0,x1,eL t 4 aG l,x3,x4,x5],.agg [.int .i64 c,.int .i64 d]]=some (.tup [aG ((l.find? fun a=>a.id=⟨c,d⟩).getD qA),.bool (gK (l.find? fun a=>a.id=⟨c,d⟩))]):=by
 have hf:=Cx (fun a:bG=>a.id) hr ⟨c,d⟩
 unfold pcF
 rw[aJ _ _ _ _ (by simp[t89])]
 have g0:∀h,resolve true h 199 x0=some x0:=fun h=>f0 _ _ _ (by decide)
 have g1:∀h,resolve true h 199 x1=some x1:=fun h=>f1 _ _ _ (by decide)
 have g3:∀h,resolve true h 199 x3=some x3:=fun h=>f3 _ _ _ (by decide)
 have g4:∀h,resolve true h 199 x4=some x4:=fun h=>f4 _ _ _ (by decide)
 have g5:∀h,resolve true h 199 x5=some x5:=fun h=>f5 _ _ _ (by decide)
 cases hq:l.find? (fun a=>a.id=⟨c,d⟩)with
 | none =>
  rw[hq]at hf
  simp at hf
  simp[t89,GD,DG,g0,g1,g3,g4,g5,hr,hl,hf,hq,aG,qA,gK,aI]
  rfl
 | some a =>
  rw[hq]at hf
  simp at hf
  simp[t89,GD,DG,g0,g1,g3,g4,g5,hr,hl,hf.1,hf.2,hq,aG,gK,aI]
structure fG(b:aH):Prop where
 aM:b.aM.length≤100000
 adv:b.aR.length≤100000
 seen:b.seen.length≤100000
 ent:b.entries.length≤100000
 own:b.bT.length≤100000
def bM(b:aH)(a:bG):aH×Bool :=
 if a.id∈b.seen then(b,false)else({b with aR:=iS (fun a=>a.id) a b.aR,seen:=iS (fun x=>x) a.id b.seen},true)
theorem q151{h:aA}{A:Option (DV×aA)}{me:Int}{t1 t2 t3 t4 t5:Bool}{aM:List Int}{adv:List bG}{seen:List ID}{ent:List aX}{own:List fT}(hA:fc D 151 [.agg [.int .i64 me,eL t1 1 bO aM,eL t2 4 aG adv,eL t3 2 eID seen,eL t4 7 aD ent,eL t5 3 cP own]] h=A)
  (hs:fG ⟨me,aM,adv,seen,ent,own⟩) (wf:WF h) (aL:h.lim≤h.n) :
  ∃ v1 v2 v3 v4 v5 h',A=some (.agg [.int .i64 me,v1,v2,v3,v4,v5],h') ∧
   Own h.n h' v1 3 1 (aM.map bO)∧Own h.n h' v2 93 4 (adv.map aG)∧Own h.n h' v3 40 2 (seen.map eID)∧Own h.n h' v4 114 7 (ent.map aD)∧Own h.n h' v5 98 3 (own.map cP)∧Ext h.n h h':=by
 subst hA
 obtain⟨z1,z2,z3,z4,z5⟩:=hs
 simp only at z1 z2 z3 z4 z5
 exact s151 h me t1 t2 t3 t4 t5 aM adv seen ent own (by omega) (by omega) (by omega) (by omega) (by omega) wf aL
theorem s102(t:dA)(b:aH)(c d:Int)(p:bJ)(q:Int)(hs:fG b)(ra:eE (b.aR.map (·.id)))(rs:eE b.seen) :
  pcF D Vc [aE t b,.agg [.int .i64 c,.int .i64 d,bE p,.int .i64 q]]=some (.tup [aE .none (bM b ⟨⟨c,d⟩,p,q⟩).1,.bool (bM b ⟨⟨c,d⟩,p,q⟩).2]):=by
 obtain⟨me,aM,adv,seen,ent,own⟩:=b
 unfold pcF
 rw[aJ _ _ _ _ (by simp[Vc])]
 simp[Vc,aE]
 generalize hA:fc D _ _ _=A
 obtain⟨v1,v2,v3,v4,v5,K,rfl,o1,o2,o3,o4,o5,x⟩:=q151 hA hs (by simp) (by simp)
 simp at o1 o2 o3 o4 o5 x
 clear hA
 have a0:=x.get 0 (by decide)
 have a1:=x.get 1 (by decide)
 have a2:=x.get 2 (by decide)
 have q0:=x.lim
 have w0:=x.wf
 have n0:=x.le
 simp at a0 a1 a2 q0
 have l0:0<K.n:=by omega
 have l2:2<K.n:=by omega
 have r1:∀o,resolve true (K.set 0 o) 199 v1=some (eL true 1 bO aM):=fun o=>(o1.aU w0 (by decide) l0).resolve true (fun y _=>(kI y).1) (by decide)
 have r2:∀o,resolve true (K.set 0 o) 199 v2=some (eL true 4 aG adv):=fun o=>(o2.aU w0 (by decide) l0).resolve true (fun y _=>(iI y).1) (by decide)
 have r3:∀o,resolve true (K.set 0 o) 199 v3=some (eL true 2 eID seen):=fun o=>(o3.aU w0 (by decide) l0).resolve true (fun y _=>(qB y).1) (by decide)
 have r4:∀o,resolve true (K.set 0 o) 199 v4=some (eL true 7 aD ent):=fun o=>(o4.aU w0 (by decide) l0).resolve true (fun y _=>(cA y).1) (by decide)
 have r5:∀o,resolve true (K.set 0 o) 199 v5=some (eL true 3 cP own):=fun o=>(o5.aU w0 (by decide) l0).resolve true (fun y _=>(lV y).1) (by decide)
 have A9:seen.length≤1000000:=by have:=hs.seen;simp only at this;omega
 have Aw:adv.length≤1000000:=by have:=hs.adv;simp only at this;omega
 simp only at ra rs
 have hh:=SX rs ⟨c,d⟩
 obtain⟨R,hR⟩:∃ R,R=DV.tup [aE .none (bM ⟨me,aM,adv,seen,ent,own⟩ ⟨⟨c,d⟩,p,q⟩).1,.bool (bM ⟨me,aM,adv,seen,ent,own⟩ ⟨⟨c,d⟩,p,q⟩).2]:=⟨_,rfl⟩
 simp only[aE]at hR
 rw[←hR]
 by_cases hm:(⟨c,d⟩:ID)∈seen
 ·have r1':∀o o',resolve false ((K.set 0 o).set 2 o') 198 v1=some (eL false 1 bO aM):=fun o o'=>((o1.aU w0 (by decide) l0).aU w0.set (by decide) l2).resolve false (fun y _=>(kI y).1) (by decide)
  have r2':∀o o',resolve false ((K.set 0 o).set 2 o') 198 v2=some (eL false 4 aG adv):=fun o o'=>((o2.aU w0 (by decide) l0).aU w0.set (by decide) l2).resolve false (fun y _=>(iI y).1) (by decide)
  have r3':∀o o',resolve false ((K.set 0 o).set 2 o') 198 v3=some (eL false 2 eID seen):=fun o o'=>((o3.aU w0 (by decide) l0).aU w0.set (by decide) l2).resolve false (fun y _=>(qB y).1) (by decide)
  have r4':∀o o',resolve false ((K.set 0 o).set 2 o') 198 v4=some (eL false 7 aD ent):=fun o o'=>((o4.aU w0 (by decide) l0).aU w0.set (by decide) l2).resolve false (fun y _=>(cA y).1) (by decide)
  have r5':∀o o',resolve false ((K.set 0 o).set 2 o') 198 v5=some (eL false 3 cP own):=fun o o'=>((o5.aU w0 (by decide) l0).aU w0.set (by decide) l2).resolve false (fun y _=>(lV y).1) (by decide)
  simp[a0,a1,a2,q0,w0,l0,l2,e136,s136,r1,r2,r3,r4,r5,r1',r2',r3',r4',r5',rs,A9,hh,hm,aI]
  simp[hR,bM,hm,dA.none]
 ·simp[a0,a1,a2,q0,w0,l0,l2,e136,s136,GD,DG,r1,r2,r3,r4,r5,rs,ra,A9,Aw,hh,hm]
  generalize hA:fc D _ _ _=A
  obtain⟨v2',K2,rfl,p2,x2,k2⟩:=q152 hA 3 adv ⟨⟨c,d⟩,p,q⟩ (vety:=93) (c:=1) (o2.aU w0 (by decide) l0).push (by simp[aG]) (cZ _ _) Aw (by simp[w0]) (by simp;omega) (by simp[q0])
  clear hA
  have b0:=x2.get 0 (by decide)
  have b1:=x2.get 1 (by decide)
  have b2:=x2.get 2 (by decide)
  have q2:=x2.lim
  have w2:=x2.wf
  have m2:=x2.le
  have z0:¬0=K.n:=by omega
  have z1:¬1=K.n:=by omega
  have z2:¬2=K.n:=by omega
  simp[a1,a2,w0,l0,q0,z0,z1,z2]at b0 b1 b2 q2
  have p1:=(((o1.aU w0 (by decide) l0).push).keep k2 x2.lim (by decide))
  have p3:=(((o3.aU w0 (by decide) l0).push).keep k2 x2.lim (by decide))
  have p4:=(((o4.aU w0 (by decide) l0).push).keep k2 x2.lim (by decide))
  have p5:=(((o5.aU w0 (by decide) l0).push).keep k2 x2.lim (by decide))
  have m0:0<K2.n:=by omega
  have m22:2<K2.n:=by omega
  simp[b0,b1,b2,q2,w2,m0,m22,p2.bD,p2.aP,turn]
  generalize hA:fc D _ _ _=A
  obtain⟨v3',K3,rfl,p3',x3,k3⟩:=q153 hA 3 seen ⟨c,d⟩ (vety:=40) (c:=1) (p3.aU w2 (by decide) m0).push (by simp[eID]) (cZ _ _) A9 (by simp[w2]) (by simp;omega) (by simp[q2])
  clear hA
  have c0:=x3.get 0 (by decide)
  have c1:=x3.get 1 (by decide)
  have c2:=x3.get 2 (by decide)
  have q3:=x3.lim
  have w3:=x3.wf
  have m3:=x3.le
  have y0:¬0=K2.n:=by omega
  have y1:¬1=K2.n:=by omega
  have y2:¬2=K2.n:=by omega
  simp[b1,b2,w2,m0,q2,y0,y1,y2]at c0 c1 c2 q3
  have m30:0<K3.n:=by omega
  have m32:2<K3.n:=by omega
  replace p1:=((p1.aU w2 (by decide) m0).push).keep k3 x3.lim (by decide)
  replace p2:=((p2.aU w2 (by decide) m0).push).keep k3 x3.lim (by decide)
  replace p4:=((p4.aU w2 (by decide) m0).push).keep k3 x3.lim (by decide)
  replace p5:=((p5.aU w2 (by decide) m0).push).keep k3 x3.lim (by decide)
  have r1':∀o o',resolve false ((K3.set 0 o).set 2 o') 198 v1=some (eL false 1 bO aM):=fun o o'=>((p1.aU w3 (by decide) m30).aU w3.set (by decide) m32).resolve false (fun y _=>(kI y).1) (by decide)
  have r2':=fun o o'=>((p2.aU (o:=o) w3 (by decide) m30).aU (o:=o') w3.set (by decide) m32).resolve (n:=198) false (fun y _=>(iI y).1) (by decide)
  have r3':=fun o o'=>((p3'.aU (o:=o) w3 (by decide) m30).aU (o:=o') w3.set (by decide) m32).resolve (n:=198) false (fun y _=>(qB y).1) (by decide)
  have r4':∀o o',resolve false ((K3.set 0 o).set 2 o') 198 v4=some (eL false 7 aD ent):=fun o o'=>((p4.aU w3 (by decide) m30).aU w3.set (by decide) m32).resolve false (fun y _=>(cA y).1) (by decide)
  have r5':∀o o',resolve false ((K3.set 0 o).set 2 o') 198 v5=some (eL false 3 cP own):=fun o o'=>((p5.aU w3 (by decide) m30).aU w3.set (by decide) m32).resolve false (fun y _=>(lV y).1) (by decide)
  simp[c0,c1,c2,q3,w3,m30,m32,p3'.bD,p3'.aP,turn,r1',r2',r3',r4',r5',aI]
  simp[hR,bM,hm,dA.none,iS]
end Go.Dm.Tc
/-
What functions of the program compute,part 4: are two brokers the same?
-/
namespace Go.Dm.Tc
theorem s49(a b:bJ)(hl:a.length≤1000000):pcF D t49 [bE a,bE b]=some (.bool (decide (a=b))):=by
 unfold pcF
 rw[aJ _ _ _ _ (by simp[t49])]
 have:=s115 false false a b hl
 simp only[←bE.eq_1]at this
 simp[t49,e115,this]
theorem s48(x y:bG)(hl:x.pred.length≤1000000):pcF D t48 [aG x,aG y]=some (.bool (decide (x=y))):=by
 unfold pcF
 rw[aJ _ _ _ _ (by simp[t48])]
 by_cases h1:x.id=y.id
 ·by_cases h2:x.bN=y.bN
  ·have:(x=y)=(x.pred=y.pred):=by cases x;cases y;simp_all
   simp[t48,aG,h1,h2,e49,s49,hl,this]
  ·have:x≠y:=fun h=>h2 (by rw[h])
   simp[t48,aG,h1,h2,this]
 ·have:x≠y:=fun h=>h1 (by rw[h])
  simp[t48,aG,qD h1,this]
theorem s51(x y:aX)(hl:x.pred.length≤1000000):pcF D t51 [aD x,aD y]=some (.bool (decide (x=y))):=by
 unfold pcF
 rw[aJ _ _ _ _ (by simp[t51])]
 by_cases h1:x.tree=y.tree
 ·by_cases h2:x.sub=y.sub
  ·by_cases h3:x.bK=y.bK
   ·by_cases h4:x.up=y.up
    ·have:(x=y)=(x.pred=y.pred):=by cases x;cases y;simp_all
     simp[t51,aD,h1,h2,h3,h4,e49,s49,hl,this]
    ·have:x≠y:=fun h=>h4 (by rw[h])
     simp[t51,aD,h1,h2,h3,beq_eq_false_iff_ne.2 h4,this]
   ·have:x≠y:=fun h=>h3 (by rw[h])
    simp[t51,aD,h1,h2,h3,this]
  ·have:x≠y:=fun h=>h2 (by rw[h])
   simp[t51,aD,h1,qD h2,this]
 ·have:x≠y:=fun h=>h1 (by rw[h])
  simp[t51,aD,qD h1,this]
theorem s53(x y:fT)(hl:x.pred.length≤1000000):pcF D t53 [cP x,cP y]=some (.bool (decide (x=y))):=by
 unfold pcF
 rw[aJ _ _ _ _ (by simp[t53])]
 by_cases h1:x.id=y.id
 ·have:(x=y)=(x.pred=y.pred):=by cases x;cases y;simp_all
  simp[t53,cP,h1,e49,s49,hl,this]
 ·have:x≠y:=fun h=>h1 (by rw[h])
  simp[t53,cP,qD h1,this]
theorem UG{α:Type}[DecidableEq α]:∀(xs ys:List α),qO (fun x y=>decide (x=y)) xs ys=decide (xs=ys):=by
 intro xs
 induction xs with
 | nil=>intro ys;cases ys<;>simp[qO]
 | cons x xs ih=>intro ys;cases ys<;>simp[qO,ih]
structure Fh(b:aH):Prop where
 adv:∀x∈b.aR,x.pred.length≤1000000
 ent:∀x∈b.entries,x.pred.length≤1000000
 own:∀x∈b.bT,x.pred.length≤1000000
theorem s16(t u:dA)(a b:aH)(hs:fG a)(hp:Fh a):pcF D t16 [aE t a,aE u b]=some (.bool (decide (a=b))):=by
 obtain⟨z1,z2,z3,z4,z5⟩:=hs
 have q1:=s45 t.aM u.aM a.aM b.aM (by omega)
 have q2:=s46 t.seen u.seen a.seen b.seen (by omega)
 have q3:=s47 t.aR u.aR a.aR b.aR 48 (fun x y=>decide (x=y)) (fun x hx y _ h=>by
  have:=s48 x y (hp.adv x hx)
  simp only[aG]at this
  simp[aG,e48,this]) (by omega)
 have q4:=s50 t.entries u.entries a.entries b.entries 51 (fun x y=>decide (x=y)) (fun x hx y _ h=>by
  have:=s51 x y (hp.ent x hx)
  simp only[aD]at this
  simp[aD,e51,this]) (by omega)
 have q5:=s52 t.bT u.bT a.bT b.bT 53 (fun x y=>decide (x=y)) (fun x hx y _ h=>by
  have:=s53 x y (hp.own x hx)
  simp only[cP]at this
  simp[cP,e53,this]) (by omega)
 rw[UG]at q3 q4 q5
 unfold pcF
 rw[aJ _ _ _ _ (by simp[t16])]
 by_cases h1:a.me=b.me
 ·by_cases h2:a.aM=b.aM
  ·by_cases h3:a.seen=b.seen
   ·by_cases h4:a.aR=b.aR
    ·by_cases h5:a.entries=b.entries
     ·have:(a=b)=(a.bT=b.bT):=by cases a;cases b;simp_all
      simp[t16,aE,h1,q1,q2,q3,q4,q5,eq_true h2,eq_true h3,eq_true h4,eq_true h5,this,e45,e46,e47,e50,e52]
     ·have:a≠b:=fun h=>h5 (by rw[h])
      simp[t16,aE,h1,q1,q2,q3,q4,eq_true h2,eq_true h3,eq_true h4,h5,this,e45,e46,e47,e50]
    ·have:a≠b:=fun h=>h4 (by rw[h])
     simp[t16,aE,h1,q1,q2,q3,eq_true h2,eq_true h3,h4,this,e45,e46,e47]
   ·have:a≠b:=fun h=>h3 (by rw[h])
    simp[t16,aE,h1,q1,q2,eq_true h2,h3,this,e45,e46]
  ·have:a≠b:=fun h=>h2 (by rw[h])
   simp[t16,aE,h1,q1,h2,this,e45]
 ·have:a≠b:=fun h=>h1 (by rw[h])
  simp[t16,aE,h1,this]
end Go.Dm.Tc
/-
What functions of the program compute,part 5: the statements' own comparisons of brokers.
-/
namespace Go.Dm.Tc
set_option maxRecDepth 8000 in
theorem l40(t u:Bool)(xs ys:List aX)(hl:xs.length≤1000000)(hp:∀x∈xs,x.pred.length≤1000000)(lU:xs.length=ys.length) :
  ∀(rest bL:List aX) (i:Nat) (f:cT) (h:aA),xs.drop i=rest→ys.drop i=bL→f 0=eL t 7 aD xs→f 1=eL u 7 aD ys→f 12=.int .i64 xs.length→f 13=.int .i64 i →
  cW (fin [.t 4] (run D 81 [.block 0,.seq JD] (.loop V5) f h))=some (.bool (decide (rest=bL))):=by
 intro rest
 induction rest with
 | nil =>
  intro bL i f h hd lD h0 h1 gE lY
  have hi:=bH hd
  have:¬(i<xs.length):=by omega
  have hr:bL=[]:=by rw[←lD];exact List.drop_eq_nil_of_le (by omega)
  subst hr
  rw[aC V5.eq_1]
  simp[JD,gE,lY,this]
 | cons e rest ih =>
  intro bL i f h hd lD h0 h1 gE lY
  obtain⟨hi,he,eJ⟩:=bR hd
  cases bL with
  | nil=>have:=bH lD;omega
  | cons e' bL =>
   obtain⟨gJ,kL,pO⟩:=bR lD
   have Z9:e.pred.length≤1000000:=hp e (by rw[←he];exact List.getElem_mem hi)
   have O6:=s41 false false e.pred e'.pred Z9
   simp only[←bE.eq_1]at O6
   rw[aC V5.eq_1]
   by_cases tN:e.tree=e'.tree
   ·by_cases Ub:e.sub=e'.sub
    ·by_cases h3':e.bK=e'.bK
     ·by_cases TF:e.up=e'.up
      ·by_cases VF:e.pred=e'.pred
       ·have:e=e':=by cases e;cases e';simp_all
        subst this
        simp[h0,h1,gE,lY,hi,gJ,he,kL,aD,e41,O6]
        rw[aT (by omega) (by omega)]
        refine(ih bL (i+1) _ h eJ pO ?_ ?_ ?_ ?_).trans ?_<;>simp[h0,h1,gE,aD]
       ·have:e≠e':=fun h=>VF (by rw[h])
        simp[h0,h1,gE,lY,hi,gJ,he,kL,aD,tN,Ub,h3',TF,e41,O6,VF,this]
      ·have:e≠e':=fun h=>TF (by rw[h])
       simp[h0,h1,gE,lY,hi,gJ,he,kL,aD,tN,Ub,h3',beq_eq_false_iff_ne.2 TF,this]
     ·have:e≠e':=fun h=>h3' (by rw[h])
      simp[h0,h1,gE,lY,hi,gJ,he,kL,aD,tN,Ub,h3',this]
    ·have:e≠e':=fun h=>Ub (by rw[h])
     simp[h0,h1,gE,lY,hi,gJ,he,kL,aD,tN,qD Ub,this]
   ·have:e≠e':=fun h=>tN (by rw[h])
    simp[h0,h1,gE,lY,hi,gJ,he,kL,aD,qD tN,this]
theorem s40(t u:Bool)(xs ys:List aX)(hl:xs.length≤1000000)(hp:∀x∈xs,x.pred.length≤1000000) :
  pcF D t40 [eL t 7 aD xs,eL u 7 aD ys]=some (.bool (decide (xs=ys))):=by
 unfold pcF
 rw[aJ _ _ _ _ (by simp[t40])]
 by_cases lU:xs.length=ys.length
 ·simp[t40,lU]
  refine(l40 t u xs ys hl hp lU xs ys 0 _ _ rfl rfl ?_ ?_ ?_ ?_).trans ?_<;>simp[lU]
 ·have:xs≠ys:=fun h=>lU (by rw[h])
  have h2:¬((xs.length:Int)=ys.length):=by omega
  simp[t40,h2,this]
theorem m11(t u:dA)(a b:aH)(ta:Nat)(h:aA)(hl:a.bT.length≤1000000)(hp:Fh a)(lU:a.bT.length=b.bT.length)(g0:h.get 0=some (.arr ta 6 [aE t a] (some 1)))(g1:h.get 1=some (.arr ta 6 [aE u b] (some 1))) :
  ∀(rest bL:List fT) (i:Nat) (f:cT),a.bT.drop i=rest→b.bT.drop i=bL→f 2=.ptr 0 6 0 0→f 3=.ptr 1 6 0 0→f 107=.int .i64 a.bT.length→f 108=.int .i64 i →
  cW (fin [.t 4] (run D 141 [.block 2,.seq JQ] (.loop X0) f h))=some (.bool (decide (rest=bL))):=by
 intro rest
 induction rest with
 | nil =>
  intro bL i f hd lD h2 h3 h107 h108
  have hi:=bH hd
  have:¬(i<a.bT.length):=by omega
  have hr:bL=[]:=by rw[←lD];exact List.drop_eq_nil_of_le (by omega)
  subst hr
  rw[aC X0.eq_1]
  simp[JQ,h107,h108,this]
 | cons e rest ih =>
  intro bL i f hd lD h2 h3 h107 h108
  obtain⟨hi,he,eJ⟩:=bR hd
  cases bL with
  | nil=>have:=bH lD;omega
  | cons e' bL =>
   obtain⟨gJ,kL,pO⟩:=bR lD
   have Z9:e.pred.length≤1000000:=hp.own e (by rw[←he];exact List.getElem_mem hi)
   have O6:=s41 false false e.pred e'.pred Z9
   simp only[←bE.eq_1]at O6
   rw[aC X0.eq_1]
   by_cases tN:e.id=e'.id
   ·by_cases VF:e.pred=e'.pred
    ·have:e=e':=by cases e;cases e';simp_all
     subst this
     simp[h2,h3,h107,h108,g0,g1,aE,hi,gJ,he,kL,cP,e41,O6]
     rw[aT (by omega) (by omega)]
     refine(ih bL (i+1) _ eJ pO ?_ ?_ ?_ ?_).trans ?_<;>simp[h2,h3,h107,aE]
    ·have:e≠e':=fun h=>VF (by rw[h])
     simp[h2,h3,h107,h108,g0,g1,aE,hi,gJ,he,kL,cP,tN,e41,O6,VF,this]
   ·have:e≠e':=fun h=>tN (by rw[h])
    simp[h2,h3,h107,h108,g0,g1,aE,hi,gJ,he,kL,cP,qD tN,this]
theorem l11(t u:dA)(a b:aH)(ta:Nat)(h:aA)(hl:a.aR.length≤1000000)(dS:a.bT.length≤1000000)(hp:Fh a)(lU:a.aR.length=b.aR.length)(ST:a.bT.length=b.bT.length)(g0:h.get 0=some (.arr ta 6 [aE t a] (some 1)))(g1:h.get 1=some (.arr ta 6 [aE u b] (some 1))) :
  ∀(rest bL:List bG) (i:Nat) (f:cT),a.aR.drop i=rest→b.aR.drop i=bL→f 2=.ptr 0 6 0 0→f 3=.ptr 1 6 0 0→f 56=.int .i64 a.aR.length→f 57=.int .i64 i →
  cW (fin [.t 4] (run D 141 [.block 0,.seq JP] (.loop X1) f h))=some (.bool (decide (rest=bL) && decide (a.bT=b.bT))):=by
 intro rest
 induction rest with
 | nil =>
  intro bL i f hd lD h2 h3 Yc Ea
  have hi:=bH hd
  have:¬(i<a.aR.length):=by omega
  have hr:bL=[]:=by rw[←lD];exact List.drop_eq_nil_of_le (by omega)
  subst hr
  rw[aC X1.eq_1]
  simp[JP,h2,h3,Yc,Ea,this,g0,aE]
  exact m11 t u a b ta h dS hp ST g0 g1 a.bT b.bT 0 _ rfl rfl (by simp[h2]) (by simp[h3]) (by simp) (by simp)
 | cons e rest ih =>
  intro bL i f hd lD h2 h3 Yc Ea
  obtain⟨hi,he,eJ⟩:=bR hd
  cases bL with
  | nil=>have:=bH lD;omega
  | cons e' bL =>
   obtain⟨gJ,kL,pO⟩:=bR lD
   have Z9:e.pred.length≤1000000:=hp.adv e (by rw[←he];exact List.getElem_mem hi)
   have O6:=s41 false false e.pred e'.pred Z9
   simp only[←bE.eq_1]at O6
   rw[aC X1.eq_1]
   by_cases tN:e.id=e'.id
   ·by_cases TF:e.bN=e'.bN
    ·by_cases VF:e.pred=e'.pred
     ·have:e=e':=by cases e;cases e';simp_all
      subst this
      simp[h2,h3,Yc,Ea,g0,g1,aE,hi,gJ,he,kL,aG,e41,O6]
      rw[aT (by omega) (by omega)]
      refine(ih bL (i+1) _ eJ pO ?_ ?_ ?_ ?_).trans ?_<;>simp[h2,h3,Yc,aE]
     ·have:e≠e':=fun h=>VF (by rw[h])
      simp[h2,h3,Yc,Ea,g0,g1,aE,hi,gJ,he,kL,aG,tN,TF,e41,O6,VF,this]
    ·have:e≠e':=fun h=>TF (by rw[h])
     simp[h2,h3,Yc,Ea,g0,g1,aE,hi,gJ,he,kL,aG,tN,TF,this]
   ·have:e≠e':=fun h=>tN (by rw[h])
    simp[h2,h3,Yc,Ea,g0,g1,aE,hi,gJ,he,kL,aG,qD tN,this]
theorem s11(t u:dA)(a b:aH)(hs:fG a)(hp:Fh a):pcF D t11 [aE t a,aE u b]=some (.bool (decide (a=b))):=by
 obtain⟨z1,z2,z3,z4,z5⟩:=hs
 have q1:=s38 t.aM u.aM a.aM b.aM (by omega)
 have q2:=s39 t.seen u.seen a.seen b.seen (by omega)
 have q3:=s40 t.entries u.entries a.entries b.entries (by omega) hp.ent
 unfold pcF
 rw[aJ _ _ _ _ (by simp[t11])]
 by_cases h1:a.me=b.me
 ·by_cases h2:a.aM=b.aM
  ·by_cases h3:a.seen=b.seen
   ·by_cases h4:a.aR.length=b.aR.length
    ·have k4:((a.aR.length:Int)=b.aR.length)=True:=eq_true (by omega)
     by_cases h5:a.bT.length=b.bT.length
     ·have k5:((a.bT.length:Int)=b.bT.length)=True:=eq_true (by omega)
      by_cases h6:a.entries=b.entries
      ·have:(a=b)=(a.aR=b.aR∧a.bT=b.bT):=by cases a;cases b;simp_all
       simp[t11,aE,h1,q1,q2,q3,eq_true h2,eq_true h3,k4,k5,eq_true h6,this,e38,e39,e40]
       have:=l11 t u a b 36 ((oH.push (.arr 36 6 [aE t a] (some 1))).push (.arr 36 6 [aE u b] (some 1))) (by omega) (by omega) hp h4 h5 (by simp) (by simp) a.aR b.aR 0
       simp only[aE,h1]at this
       refine(this _ rfl rfl ?_ ?_ ?_ ?_).trans ?_<;>simp
      ·have:a≠b:=fun h=>h6 (by rw[h])
       simp[t11,aE,h1,q1,q2,q3,eq_true h2,eq_true h3,k4,k5,h6,this,e38,e39,e40]
     ·have:a≠b:=fun h=>h5 (by rw[h])
      have k5:((a.bT.length:Int)=b.bT.length)=False:=eq_false (by omega)
      simp[t11,aE,h1,q1,q2,eq_true h2,eq_true h3,k4,k5,this,e38,e39]
    ·have:a≠b:=fun h=>h4 (by rw[h])
     have k4:((a.aR.length:Int)=b.aR.length)=False:=eq_false (by omega)
     simp[t11,aE,h1,q1,q2,eq_true h2,eq_true h3,k4,this,e38,e39]
   ·have:a≠b:=fun h=>h3 (by rw[h])
    simp[t11,aE,h1,q1,q2,eq_true h2,h3,this,e38,e39]
  ·have:a≠b:=fun h=>h2 (by rw[h])
   simp[t11,aE,h1,q1,h2,this,e38]
 ·have:a≠b:=fun h=>h1 (by rw[h])
  simp[t11,aE,h1,this]
end Go.Dm.Tc
/-
What functions of the statements' own packages compute: numbers brought into bounds;predicates Gu of numbers;a broker copied.
-/
namespace Go.Dm.Tc
def aS(n lo hi:Int):Int:=if n.tmod (hi-lo+1)<0 then lo+(n.tmod (hi-lo+1)+hi-lo+1)else lo+n.tmod (hi-lo+1)
theorem dB(n:Int){lo hi:Int}(h:lo≤hi):lo≤aS n lo hi∧aS n lo hi≤hi:=by
 have h1:0<hi-lo+1:=by omega
 have h2:=Int.tmod_lt_of_pos n h1
 have h3:-(hi-lo+1)<n.tmod (hi-lo+1):=by
  have:=Int.lt_tmod_of_pos n h1
  omega
 unfold aS
 split<;>omega
theorem s8(n lo hi:Int)(h:lo≤hi)(dS:-1000000000≤lo)(Ha:hi≤1000000000):pcF D t8 [.int .i64 n,.int .i64 lo,.int .i64 hi]=some (.int .i64 (aS n lo hi)):=by
 unfold pcF
 rw[aJ _ _ _ _ (by simp[t8])]
 have h1:0<hi-lo+1:=by omega
 have h2:=Int.tmod_lt_of_pos n h1
 have h3:-(hi-lo+1)<n.tmod (hi-lo+1):=by
  have:=Int.lt_tmod_of_pos n h1
  omega
 have w1:IntKind.i64.wrap (hi-lo)=hi-lo:=aT (by omega) (by omega)
 have w2:IntKind.i64.wrap (hi-lo+1)=hi-lo+1:=aT (by omega) (by omega)
 have eG:hi-lo+1≠0:=by omega
 have hr:cN .rem (.int .i64 n) (.int .i64 (hi-lo+1))=some (.int .i64 (n.tmod (hi-lo+1))):=by simp[cN,eG]
 by_cases As:n.tmod (hi-lo+1)<0
 ·have w3:IntKind.i64.wrap (n.tmod (hi-lo+1)+hi)=n.tmod (hi-lo+1)+hi:=aT (by omega) (by omega)
  have w4:IntKind.i64.wrap (n.tmod (hi-lo+1)+hi-lo)=n.tmod (hi-lo+1)+hi-lo:=aT (by omega) (by omega)
  have w5:IntKind.i64.wrap (n.tmod (hi-lo+1)+hi-lo+1)=n.tmod (hi-lo+1)+hi-lo+1:=aT (by omega) (by omega)
  have w6:IntKind.i64.wrap (lo+(n.tmod (hi-lo+1)+hi-lo+1))=lo+(n.tmod (hi-lo+1)+hi-lo+1):=aT (by omega) (by omega)
  simp[t8,w1,w2,hr,As,w3,w4,w5,w6,aS]
 ·have w6:IntKind.i64.wrap (lo+n.tmod (hi-lo+1))=lo+n.tmod (hi-lo+1):=aT (by omega) (by omega)
  simp[t8,w1,w2,hr,As,w6,aS]
def lL:List (List UInt8):=[[97],[98],[99],[100],[101],[102],[103]]
def qK:List (List UInt8):=[[],[120],[120,121],[120,121,122],[120,122],[121],[121,121]]
theorem s91:pcF D t91 []=some (eL false 1 Bg lL):=by
 unfold pcF
 rw[aJ _ _ _ _ (by simp[t91])]
 simp[t91,List.replicate]
 exact⟨rfl,rfl⟩
theorem YI:pcF D CJ []=some (eL false 1 Bg qK):=by
 unfold pcF
 rw[aJ _ _ _ _ (by simp[CJ])]
 simp[CJ,List.replicate]
 exact⟨rfl,rfl⟩
def zL(l:List Int)(i:Nat):Int:=if l.length=0 then 0 else l.getD (i % l.length) 0
theorem s93(t:Bool)(l:List Int)(i:Nat):pcF D t93 [eL t 1 bO l,.int .i64 i]=some (.int .i64 (zL l i)):=by
 unfold pcF
 rw[aJ _ _ _ _ (by simp[t93])]
 cases l with
 | nil=>simp[t93,zL]
 | cons x l =>
  have eG:((l.length:Int)+1)≠0:=by omega
  have hr:cN .rem (.int .i64 (i:Int)) (.int .i64 ((l.length:Int)+1))=some (.int .i64 ((i % (l.length+1):Nat):Int)):=by
   simp only[cN,if_true,if_neg eG]
   congr 2
  have bC:i % (l.length+1)<(x::l).length:=by simp;exact Nat.mod_lt _ (by omega)
  simp[t93,hr,-Int.natCast_emod,List.getElem?_eq_getElem bC,bO,zL,eG]
def qL(name:List UInt8)(n:Int):eQ :=
 if aS n 0 3=0∨aS n 0 3=1 then⟨name,1,aS (IntKind.i64.wrap (n.tdiv 4)) 0 9,aS (IntKind.i64.wrap (n.tdiv 4)) 0 9+aS (IntKind.i64.wrap (n.tdiv 40)) 0 9,[]⟩
 else⟨name,if aS n 0 3=2 then 2 else 3,0,0,qK.getD (aS (IntKind.i64.wrap (n.tdiv 4)) 0 6).toNat []⟩
set_option maxRecDepth 8000 in
theorem s92(name:List UInt8)(n:Int):pcF D t92 [.str name,.int .i64 n]=some (aO (qL name n)):=by
 unfold pcF
 rw[aJ _ _ _ _ (by simp[t92])]
 have w0:=s8 n 0 3 (by decide) (by decide) (by decide)
 have w1:=fun m=>s8 m 0 9 (by decide) (by decide) (by decide)
 have w2:=fun m=>s8 m 0 6 (by decide) (by decide) (by decide)
 have hq4:cN .quo (.int .i64 n) (.int .i64 4)=some (.int .i64 (IntKind.i64.wrap (n.tdiv 4))):=rfl
 have hq40:cN .quo (.int .i64 n) (.int .i64 40)=some (.int .i64 (IntKind.i64.wrap (n.tdiv 40))):=rfl
 by_cases h01:aS n 0 3=0∨aS n 0 3=1
 ·have b1:=dB (IntKind.i64.wrap (n.tdiv 4)) (show(0:Int)≤9 by decide)
  have b2:=dB (IntKind.i64.wrap (n.tdiv 40)) (show(0:Int)≤9 by decide)
  have w3:IntKind.i64.wrap (aS (IntKind.i64.wrap (n.tdiv 4)) 0 9+aS (IntKind.i64.wrap (n.tdiv 40)) 0 9)=aS (IntKind.i64.wrap (n.tdiv 4)) 0 9+aS (IntKind.i64.wrap (n.tdiv 40)) 0 9:=aT (by omega) (by omega)
  rcases h01 with h0|h1
  ·simp[t92,e8,w0,w1,hq4,hq40,h0,turn]
   rw[w3]
   simp[qL,aO,h0]
  ·simp[t92,e8,w0,w1,hq4,hq40,h1,turn]
   rw[w3]
   simp[qL,aO,h1]
 ·have b1:=dB (IntKind.i64.wrap (n.tdiv 4)) (show(0:Int)≤6 by decide)
  have bC:(aS (IntKind.i64.wrap (n.tdiv 4)) 0 6).toNat<qK.length:=by simp[qK];omega
  obtain⟨tx,hx⟩:∃ tx,qK[(aS (IntKind.i64.wrap (n.tdiv 4)) 0 6).toNat]?=some tx:=⟨_,List.getElem?_eq_getElem bC⟩
  have h0:¬aS n 0 3=0:=fun h=>h01 (.inl h)
  have h1:¬aS n 0 3=1:=fun h=>h01 (.inr h)
  by_cases h2:aS n 0 3=2
  ·simp[t92,e8,w0,w2,hq4,h0,h1,h2,turn,i8,YI,b1.1,hx,Bg]
   simp[qL,aO,h0,h1,h2,hx]
  ·simp[t92,e8,w0,w2,hq4,h0,h1,h2,turn,i8,YI,b1.1,hx,Bg]
   simp[qL,aO,h0,h1,h2,hx]
end Go.Dm.Tc
