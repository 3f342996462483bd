/-
What the reference's functions compute, part 11: its predicate made of constraints; do two predicates meet?
-/
import Derived.Test.YtfnhanajiibciaaGreatMs1
import Derived.Test.YtfnhanajiibciaaGreatMs0
set_option linter.all false
namespace Go.Dm.Tc
def MakeOutR (o:Option Pred) (r:Option DV):Prop :=
 match o with
 | some out=>r=some (.tup [eL false 5 eCons out,.bool true])
 | none=>r=some (.tup [.isl false 0 [],.bool false])
theorem hit_no {cm:Cons→Int} {out:Pred} (h:hitAt cm out=false) (hl:lowIdx cm out<out.length):¬cm out[lowIdx cm out]=0:=by
 unfold hitAt at h
 rw [List.getElem?_eq_getElem hl]at h
 simpa using h
theorem m159 (t:Bool) (l:Pred) (hl:l.length≤1000000) (hr:∀c∈l,Kind3 c.kind) :
  ∀(rest:Pred) (i:Nat) (out:Pred) (v:DV) (f:FEnv) (h:Heap),l.drop i=rest→(∀c∈out,Kind3 c.kind)→out.length≤i→f 4=v→f 10=eL t 5 eCons l→f 11=.int .i64 l.length→f 12=.int .i64 i →
  OwnR 0 h v 62 5 (out.map eCons)→h.lim=0→WF h →
  MakeOutR (makeR out rest) (pcOut (fin [.t 2,.t 3] (run D 78 [.block 0,.seq t159k2] (.loop t159l1) f h))):=by
 intro rest
 induction rest with
 | nil =>
  intro i out v f h hd hk h5 h4 h10 h11 h12 ho hlim wf
  have hi:=drop_nil hd
  have:¬(i<l.length):=by omega
  have r1:resolve false h 199 v=some (eL false 5 eCons out):=ho.resolve false (fun y _=>(plain_con y).1) (by decide)
  rw [run_loop_of t159l1.eq_1]
  simp [t159k2,h11,h12,this,h4,makeR,MakeOutR,resultsOf,r1]
  exact unl_eL (fun y _=>(plain_con y).2) 199 (by decide)
 | cons c rest ih =>
  intro i out v f h hd hk h5 h4 h10 h11 h12 ho hlim wf
  obtain ⟨hi,he,hd'⟩:=drop_at hd
  have hc:=hr c (by rw [←he];exact List.getElem_mem hi)
  rw [run_loop_of t159l1.eq_1]
  simp [h4,h10,h11,h12,hi,he,eCons,hlim,wf,turn]
  generalize hF:upd _ 7 _=F
  have o1:OwnR 0 (h.push (.arr 62 5 [eCons c] (some 1))) v 62 5 (out.map eCons):=ho.push
  refine n159 _ (h.push (.arr 62 5 [eCons c] (some 1))) out c v h.n (some 1) (by omega) (by simp) o1 (fun r=>MakeOutR (makeR out (c::rest)) (pcOut (fin [.t 2,.t 3] r))) _ 0 F rfl (Nat.zero_le _) (by rw [←hF];simp [h4]) (by rw [←hF];simp) (by rw [←hF];simp) fun F' q7 qr=>?_
  have q4:F' 4=v:=by rw [qr 4 (by decide) (by decide),←hF];simp [h4]
  have q6:F' 6=.ptr h.n 5 0 0:=by rw [qr 6 (by decide) (by decide),←hF];simp
  have q10:F' 10=eL t 5 eCons l:=by rw [qr 10 (by decide) (by decide),←hF];simp [h10]
  have q11:F' 11=.int .i64 l.length:=by rw [qr 11 (by decide) (by decide),←hF];simp [h11]
  have q12:F' 12=.int .i64 i:=by rw [qr 12 (by decide) (by decide),←hF];simp [h12]
  clear hF qr
  have hlen:∀o,lenV (h.push o) 1 v=some (.int .i64 out.length):=fun o=>by simpa using (ho.push (o:=o)).lenV
  have hmv:=ho.mapId
  have n0:¬0=h.n+1:=by omega
  by_cases hlt:lowIdx (cmpN c.name) out<out.length
  ·obtain ⟨id,sp,cap,hv,hg,_,_,hix,hx⟩:=ho.index (i:=lowIdx (cmpN c.name) out) (x:=eCons out[lowIdx (cmpN c.name) out]) (by simp [hlt]) .i64
   have hidn:=get_some_lt hg
   have hne:¬id=h.n:=by omega
   have hne':¬h.n=id:=by omega
   have hne2:¬id=h.n+1:=by omega
   have hxm:out[lowIdx (cmpN c.name) out]∈out:=List.getElem_mem hlt
   generalize hxx:out[lowIdx (cmpN c.name) out]=x at *
   have hx?:out[lowIdx (cmpN c.name) out]?=some x:=by rw [List.getElem?_eq_getElem hlt,hxx]
   have hb:=s189 x c (hk x hxm) hc
   simp only [eCons]at hx hb
   cases hh:hitAt (cmpN c.name) out with
   | true =>
    obtain ⟨x2,hx2,hx0,_⟩:=hit_get hh
    have:x2=x:=Option.some.inj (hx2.symm.trans hx?)
    subst this
    have hnm:x2.name=c.name:=cmpB_eq.1 hx0
    rw [hnm]at hb
    cases hj:joinC x2 c with
    | none =>
     rw [hj]at hb
     simp only [hasO]at hb
     have hin:insR out c=none:=by simp only [insR,hh,if_true,hx?,hj]
     rw [show makeR out (c::rest)=none from by simp only [makeR,hin]]
     simp [t159k0,q4,q6,q7,hlen,hmv,hlt,hix,hg,hx,hne,hne',hidn,eCons,hnm,e189,hb,hlim,wf,turn,resultsOf,MakeOutR,-List.getElem?_map]
    | some b =>
     rw [hj]at hb
     have hje:=joinX_eq (hk x2 hxm) hc hj
     rw [hje]at hb
     simp only [hasO]at hb
     have hin:insR out c=some (out.set (lowIdx (cmpN c.name) out) b):=by simp only [insR,hh,if_true,hx?,hj]
     rw [show makeR out (c::rest)=makeR (out.set (lowIdx (cmpN c.name) out) b) rest from by simp only [makeR,hin]]
     have hel:∀p1 p2 p3,elems (((h.push p1).push p2).push p3) 5 v=some (out.map eCons):=fun p1 p2 p3=>ho.push.push.push.elems
     simp [t159k0,q4,q6,q7,hlen,hmv,hlt,hix,hg,hx,hne,hne',hidn,eCons,hnm,e189,hb,hlim,wf,turn,hel,-List.getElem?_map]
     generalize hA:appendD _ _ _ _ _ _=A
     obtain ⟨i1,K1,rfl,u1,x1,y1,j1⟩:=(OwnI.fresh (lo:=h.n+2) (ety:=62) (sz:=5) (xs:=[]) (cap:=some 0) (by simp [hlim]) (by simp)).append (n:=0) rfl (by simp [wf]) (by simp) (by simp [hlim]) hA (by simp;omega) (by decide)
     clear hA
     have a1:=x1.get (h.n+1) (by omega)
     have b1:=x1.lim
     simp [hlim]at a1 b1
     obtain ⟨⟨sp1,cap1,g1⟩,l1,l2⟩:=u1
     have hlt1:=get_some_lt g1
     have hix1:indexAddrV 5 (.sl i1 5 0 out.length) (.int .i64 (lowIdx (cmpN c.name) out:Nat))=some (.ptr i1 5 (lowIdx (cmpN c.name) out) 0):=by simp [indexAddrV,asI,hlt]
     have hx1:(List.map eCons out++sp1)[lowIdx (cmpN c.name) out]?=some (.agg [.str x2.name,.int .i64 x2.kind,.int .i64 x2.lo,.int .i64 x2.hi,.str x2.text]):=by
      rw [List.getElem?_append_left (by simpa using hlt),List.getElem?_map,hx?];rfl
     simp [t159k1,q4,q7,q12,a1,hix1,g1,b1,hlt1,hx1,x1.wf,-List.getElem?_map]
     rw [wrap64 (by omega) (by omega)]
     generalize hF:upd _ 12 _=F2
     have hin2:=insR_kind hk hc hin
     refine ih (i+1) (out.set (lowIdx (cmpN c.name) out) b) (.sl i1 5 0 out.length) F2 _ hd' hin2 (by simp;omega) ?_ ?_ ?_ ?_ (.arr i1 sp1 cap1 (by simp) ?_ ?_ (Nat.zero_le _)) ?_ ?_
     ·rw [←hF];simp
     ·rw [←hF];simp [q10]
     ·rw [←hF];simp [q11]
     ·rw [←hF];simp
     ·simp [hlt1,x1.wf,List.map_set,eCons,List.set_append,hlt]
     ·simp [b1]
     ·simp [b1]
     ·simp [x1.wf]
   | false =>
    have hnm:¬x.name=c.name:=fun e=>by
     have:=hit_no hh hlt
     rw [hxx]at this
     exact this (cmpB_eq.2 e)
    have hin:insR out c=some (out.take (lowIdx (cmpN c.name) out)++c::out.drop (lowIdx (cmpN c.name) out)):=by simp [insR,hh]
    have hkl:=lowIdx_le (cmpN c.name) out
    simp only [List.length_map]at hv
    generalize hkk:lowIdx (cmpN c.name) out=k at *
    subst hv
    have hmk:makeR out (c::rest)=makeR (out.take k++c::out.drop k) rest:=by simp only [makeR,hin]
    rw [hmk]
    have hnk:¬h.n+1=h.n:=by omega
    have hkl2:k≤out.length+sp.length:=by omega
    have hmin:min k out.length=k:=by omega
    have htk:List.take k (List.map eCons out++sp)=(out.take k).map eCons:=by rw [List.take_append_of_le_length (by simpa using hkl),List.map_take]
    have hnid:¬h.n+1=id:=by omega
    have hdk:List.take (out.length-k) (List.drop k (List.map eCons out++sp))=(out.drop k).map eCons:=by
     rw [List.drop_append_of_le_length (by simpa using hkl),List.take_left' (by simp),List.map_drop]
    have hsum:k+(out.length-k)=out.length:=by omega
    simp [t159k0,q4,q6,q7,hlt,hix,hg,hx,hne,hne',hne2,hidn,eCons,hnm,hlim,wf,turn,hkl,hkl2,hnk,htk,hmin,-List.getElem?_map]
    generalize hA:appendD _ _ _ _ _ _=A
    obtain ⟨i1,K1,rfl,u1,x1,y1,j1⟩:=(OwnI.fresh (lo:=h.n+1) (ety:=62) (sz:=5) (xs:=[]) (cap:=some 0) (by simp [hlim]) (by simp)).append (n:=0) rfl (by simp [wf]) (by simp) (by simp [hlim]) hA (by simp;omega) (by decide)
    clear hA
    have a0:=x1.get h.n (by omega)
    have a1:=x1.get id (by omega)
    have b1:=x1.lim
    have w1:=x1.wf
    have n1:=x1.le
    have ul1:=u1.lo
    have m0:¬id=i1:=by omega
    have m1:¬i1=id:=by omega
    have m2:¬h.n=i1:=by omega
    have m3:¬i1=h.n:=by omega
    simp [hg,hne,hne2,hlim,hnk]at a0 a1 b1 u1
    simp [q4,q6,q7,a0,a1,b1,w1,m0,m1,m2,m3,hkl,hkl2,hnid,hnk,hmin,eCons]
    generalize hA:appendD _ _ _ _ _ _=A
    obtain ⟨i2,K2,rfl,u2,x2,y2,j2⟩:=(u1.push (o:=_)).append (by simp [hmin]) (by simp [w1]) (by simp;omega) (by simp [b1]) hA (by simp;omega) (by decide)
    clear hA
    have c1:=x2.get id (by omega)
    have d1:=x2.lim
    have n2:=x2.le
    have r1:¬id=K1.n:=by omega
    simp [a1,b1,r1]at c1 d1 u2
    simp [q4,q6,q7,hne,hg,c1,d1,x2.wf,m0,m1,m2,m3,hkl,hkl2,hnid,hnk,hmin,hdk,hsum]
    generalize hA:appendD _ _ _ _ _ _=A
    obtain ⟨i3,K3,rfl,u3,x3,y3,j3⟩:=u2.append (by simp [hmin]) x2.wf n2 (by omega) hA (by simp;omega) (by decide)
    clear hA
    have d3:=x3.lim
    simp [t159k1,q12,hmin]
    rw [wrap64 (by omega) (by omega)]
    generalize hF:upd _ 12 _=F2
    have u4:=u3.toR.lower (Nat.zero_le _)
    have u5:OwnR 0 K3 (.sl i3 5 0 (k+1+(out.length-k))) 62 5 ((out.take k++c::out.drop k).map eCons):=by
     have e2:((out.take k++c::out.drop k).map eCons).length=k+1+(out.length-k):=by simp [hmin];omega
     rw [←e2]
     simpa [eCons] using u4
    refine ih (i+1) _ _ F2 K3 hd' (insR_kind hk hc hin) (by simp;omega) ?_ ?_ ?_ ?_ u5 (by omega) x3.wf
    ·rw [←hF];simp [hmin]
    ·rw [←hF];simp [q10]
    ·rw [←hF];simp [q11]
    ·rw [←hF];simp
  ·have hh:hitAt (cmpN c.name) out=false:=by unfold hitAt;rw [List.getElem?_eq_none (by omega)]
   have hin:insR out c=some (out.take (lowIdx (cmpN c.name) out)++c::out.drop (lowIdx (cmpN c.name) out)):=by simp [insR,hh]
   cases ho with
   | nil hv hx =>
    have ho0:out=[]:=by simpa using hx
    subst hv
    subst ho0
    have hlo:lowIdx (cmpN c.name) ([]:Pred)=0:=rfl
    rw [hlo]at q7 hin hlt
    have hmk:makeR [] (c::rest)=makeR [c] rest:=by simp only [makeR,hin];rfl
    rw [hmk]
    have hnk:¬h.n+1=h.n:=by omega
    have hz1:∀H,sliceV H 5 .nsl none (some (.int .i64 0))=some .nsl:=fun _=>rfl
    have hz2:∀H,sliceV H 5 .nsl (some (.int .i64 0)) none=some .nsl:=fun _=>rfl
    simp [t159k0,q4,q6,q7,eCons,hlim,wf,turn,hnk,hz1]
    generalize hA:appendD _ _ _ _ _ _=A
    obtain ⟨i1,K1,rfl,u1,x1,y1,j1⟩:=(OwnI.fresh (lo:=h.n+1) (ety:=62) (sz:=5) (xs:=[]) (cap:=some 0) (by simp [hlim]) (by simp)).append (n:=0) rfl (by simp [wf]) (by simp) (by simp [hlim]) hA (by simp) (by decide)
    clear hA
    have a0:=x1.get h.n (by omega)
    have b1:=x1.lim
    have w1:=x1.wf
    have n1:=x1.le
    have ul1:=u1.lo
    have m2:¬h.n=i1:=by omega
    have m3:¬i1=h.n:=by omega
    simp [hlim,hnk]at a0 b1 u1
    simp [q4,q6,q7,a0,b1,w1,m2,m3,hnk,eCons]
    generalize hA:appendD _ _ _ _ _ _=A
    obtain ⟨i2,K2,rfl,u2,x2,y2,j2⟩:=(u1.push (o:=_)).append (by simp) (by simp [w1]) (by simp;omega) (by simp [b1]) hA (by simp) (by decide)
    clear hA
    have d1:=x2.lim
    have n2:=x2.le
    simp [b1]at d1 u2
    simp [q4,q6,q7,d1,x2.wf,m2,m3,hnk,hz2]
    generalize hA:appendD _ _ _ _ _ _=A
    obtain ⟨i3,K3,rfl,u3,x3,y3,j3⟩:=u2.append (by simp) x2.wf n2 (by omega) hA (by simp) (by decide)
    clear hA
    have d3:=x3.lim
    simp [t159k1,q12]
    rw [wrap64 (by omega) (by omega)]
    generalize hF:upd _ 12 _=F2
    have u4:=u3.toR.lower (Nat.zero_le _)
    refine ih (i+1) _ _ F2 K3 hd' (insR_kind hk hc hin) (by simp) ?_ ?_ ?_ ?_ (by simpa [eCons] using u4) (by omega) x3.wf
    ·rw [←hF];simp
    ·rw [←hF];simp [q10]
    ·rw [←hF];simp [q11]
    ·rw [←hF];simp
   | arr id sp cap hv hg hlm hlo =>
    have hidn:=get_some_lt hg
    have hne:¬id=h.n:=by omega
    have hne':¬h.n=id:=by omega
    have hne2:¬id=h.n+1:=by omega
    have hkl:=lowIdx_le (cmpN c.name) out
    simp only [List.length_map]at hv
    generalize hkk:lowIdx (cmpN c.name) out=k at *
    subst hv
    have hmk:makeR out (c::rest)=makeR (out.take k++c::out.drop k) rest:=by simp only [makeR,hin]
    rw [hmk]
    have hnk:¬h.n+1=h.n:=by omega
    have hkl2:k≤out.length+sp.length:=by omega
    have hmin:min k out.length=k:=by omega
    have htk:List.take k (List.map eCons out++sp)=(out.take k).map eCons:=by rw [List.take_append_of_le_length (by simpa using hkl),List.map_take]
    have hnid:¬h.n+1=id:=by omega
    have hdk:List.take (out.length-k) (List.drop k (List.map eCons out++sp))=(out.drop k).map eCons:=by
     rw [List.drop_append_of_le_length (by simpa using hkl),List.take_left' (by simp),List.map_drop]
    have hsum:k+(out.length-k)=out.length:=by omega
    simp [t159k0,q4,q6,q7,hlt,hg,hne,hne',hne2,hidn,eCons,hlim,wf,turn,hkl,hkl2,hnk,htk,hmin,-List.getElem?_map]
    generalize hA:appendD _ _ _ _ _ _=A
    obtain ⟨i1,K1,rfl,u1,x1,y1,j1⟩:=(OwnI.fresh (lo:=h.n+1) (ety:=62) (sz:=5) (xs:=[]) (cap:=some 0) (by simp [hlim]) (by simp)).append (n:=0) rfl (by simp [wf]) (by simp) (by simp [hlim]) hA (by simp;omega) (by decide)
    clear hA
    have a0:=x1.get h.n (by omega)
    have a1:=x1.get id (by omega)
    have b1:=x1.lim
    have w1:=x1.wf
    have n1:=x1.le
    have ul1:=u1.lo
    have m0:¬id=i1:=by omega
    have m1:¬i1=id:=by omega
    have m2:¬h.n=i1:=by omega
    have m3:¬i1=h.n:=by omega
    simp [hg,hne,hne2,hlim,hnk]at a0 a1 b1 u1
    simp [q4,q6,q7,a0,a1,b1,w1,m0,m1,m2,m3,hkl,hkl2,hnid,hnk,hmin,eCons]
    generalize hA:appendD _ _ _ _ _ _=A
    obtain ⟨i2,K2,rfl,u2,x2,y2,j2⟩:=(u1.push (o:=_)).append (by simp [hmin]) (by simp [w1]) (by simp;omega) (by simp [b1]) hA (by simp;omega) (by decide)
    clear hA
    have c1:=x2.get id (by omega)
    have d1:=x2.lim
    have n2:=x2.le
    have r1:¬id=K1.n:=by omega
    simp [a1,b1,r1]at c1 d1 u2
    simp [q4,q6,q7,hne,hg,c1,d1,x2.wf,m0,m1,m2,m3,hkl,hkl2,hnid,hnk,hmin,hdk,hsum]
    generalize hA:appendD _ _ _ _ _ _=A
    obtain ⟨i3,K3,rfl,u3,x3,y3,j3⟩:=u2.append (by simp [hmin]) x2.wf n2 (by omega) hA (by simp;omega) (by decide)
    clear hA
    have d3:=x3.lim
    simp [t159k1,q12,hmin]
    rw [wrap64 (by omega) (by omega)]
    generalize hF:upd _ 12 _=F2
    have u4:=u3.toR.lower (Nat.zero_le _)
    have u5:OwnR 0 K3 (.sl i3 5 0 (k+1+(out.length-k))) 62 5 ((out.take k++c::out.drop k).map eCons):=by
     have e2:((out.take k++c::out.drop k).map eCons).length=k+1+(out.length-k):=by simp [hmin];omega
     rw [←e2]
     simpa [eCons] using u4
    refine ih (i+1) _ _ F2 K3 hd' (insR_kind hk hc hin) (by simp;omega) ?_ ?_ ?_ ?_ u5 (by omega) x3.wf
    ·rw [←hF];simp [hmin]
    ·rw [←hF];simp [q10]
    ·rw [←hF];simp [q11]
    ·rw [←hF];simp
theorem s159 (t:Bool) (l:Pred) (hl:l.length≤1000000) (hr:∀c∈l,Kind3 c.kind):MakeOutR (makeR [] l) (pcF D t159 [eL t 5 eCons l]):=by
 unfold pcF
 rw [goRun_eq _ _ _ _ (by simp [t159])]
 simp [t159]
 refine m159 t l hl hr l 0 [] .nsl _ heap0 rfl (by simp) (by simp) ?_ ?_ ?_ ?_ (.nil rfl rfl) ?_ ?_<;>simp
theorem s121 (a b:Pred) (ha:PredOk a) (hb:PredOk b):pcF D t121 [ePred a,ePred b]=some (.bool (meetsP a b)):=by
 have hla:=ha.len
 have hlb:=hb.len
 have hone:∀c∈a++b,rightOne c=true∧c.name.length≤1000000:=fun c hc=>(List.mem_append.1 hc).elim (ha.one c) (hb.one c)
 have hm:=s159 true (a++b) (by simp;omega) fun c hc=>right_kind (hone c hc).1
 unfold pcF
 rw [goRun_eq _ _ _ _ (by simp [t121])]
 simp only [ePred]
 simp [t121]
 generalize hA:appendD _ _ _ _ _ _=A
 obtain ⟨v1,K1,rfl,p1,x1,_⟩:=OwnR.append (lo:=0) (OwnR.fresh (lo:=0) (xs:=[]) (by simp) (by simp)) (by simp) (Nat.zero_le _) (by simp) hA (by simp;omega) (by decide)
 clear hA
 simp
 generalize hA:appendD _ _ _ _ _ _=A
 obtain ⟨v2,K2,rfl,p2,x2,_⟩:=OwnR.append p1 x1.wf (Nat.zero_le _) (by rw [x1.lim];simp) hA (by simp;omega) (by decide)
 clear hA
 have hp:OwnR 0 K2 v2 62 5 ((a++b).map eCons):=by simpa using p2
 have r1:resolve true K2 200 v2=some (eL true 5 eCons (a++b)):=hp.resolve true (fun y _=>(plain_con y).1) (by decide)
 unfold meetsP
 rw [makeR_C (a++b) (out:=[]) (by simp)]
 cases hk:makeR [] (a++b) with
 | none =>
  rw [hk]at hm
  simp only [MakeOutR]at hm
  simp [e159,r1,hm,resultsOf]
 | some out =>
  rw [hk]at hm
  simp only [MakeOutR]at hm
  simp [e159,r1,hm,resultsOf]
  omega
end Go.Dm.Tc
/-
What functions compute,part 34: messages put out;to all neighbours but one.
-/
namespace Go.Dm.Tc
structure OutS where
 to:Int
 kind:Int
 tree:ID
 id:ID
 pred:Pred
 deriving DecidableEq,Inhabited
def eOut (o:OutS):DV:=.agg [.int .i64 o.to,.int .i64 o.kind,.int .i64 o.tree.client,.int .i64 o.tree.seq,.int .i64 o.id.client,.int .i64 o.id.seq,ePred o.pred,.isl false 0 []]
def RowR (es:List DV) (os:List OutS):Prop:=es.length=os.length∧∀(tag:Bool) (h:Heap) (n:Nat),21≤n→es.mapM (resolve tag h n)=some (os.map eOut)
theorem RowR.nil:RowR [] []:=⟨rfl,fun _ _ _ _=>rfl⟩
theorem RowR.append {a b:List DV} {x y:List OutS} (h1:RowR a x) (h2:RowR b y):RowR (a++b) (x++y):=by
 refine ⟨by simp [h1.1,h2.1],fun tag h n hn=>?_⟩
 rw [List.mapM_append,h1.2 tag h n hn,h2.2 tag h n hn]
 simp
def rawO (to k tc td ic id:Int) (pd ad:DV):DV:=.agg [.int .i64 to,.int .i64 k,.int .i64 tc,.int .i64 td,.int .i64 ic,.int .i64 id,pd,ad]
def Means (pd:DV) (p:Pred):Prop:=pd=ePred p∨(pd=.nsl∧p=[])
def Nils (ad:DV):Prop:=ad=.nsl∨ad=.isl false 0 []
theorem Means.res {pd:DV} {p:Pred} (h:Means pd p) (tag:Bool) (hp:Heap) (n:Nat) (hn:20≤n):resolve tag hp n pd=some (ePred p):=by
 obtain ⟨m,rfl⟩:∃ m,n=m+1:=⟨n-1,by omega⟩
 rcases h with rfl|⟨rfl,rfl⟩
 ·exact res_pred ..
 ·rfl
theorem Nils.res {ad:DV} (h:Nils ad) (tag:Bool) (hp:Heap) (n:Nat) (hn:20≤n):resolve tag hp n ad=some (.isl false 0 []):=by
 obtain ⟨m,rfl⟩:∃ m,n=m+1:=⟨n-1,by omega⟩
 rcases h with rfl|rfl
 ·rfl
 ·rfl
theorem rawO_res {to k tc td ic id:Int} {pd ad:DV} {p:Pred} (hp:Means pd p) (ha:Nils ad) (tag:Bool) (h:Heap) (n:Nat) (hn:21≤n):resolve tag h n (rawO to k tc td ic id pd ad)=some (eOut ⟨to,k,⟨tc,td⟩,⟨ic,id⟩,p⟩):=by
 obtain ⟨m,rfl⟩:∃ m,n=m+1:=⟨n-1,by omega⟩
 obtain ⟨q,rfl⟩:∃ q,m=q+1:=⟨m-1,by omega⟩
 have h1:=hp.res tag h (q+1) (by omega)
 have h2:=ha.res tag h (q+1) (by omega)
 unfold rawO eOut
 rw [res_agg]
 simp [h1,h2]
theorem RowR.one {to k tc td ic id:Int} {pd ad:DV} {p:Pred} (hp:Means pd p) (ha:Nils ad):RowR [rawO to k tc td ic id pd ad] [⟨to,k,⟨tc,td⟩,⟨ic,id⟩,p⟩] :=
 ⟨rfl,fun tag h n hn=>by simp only [List.mapM_cons,List.mapM_nil,rawO_res hp ha tag h n hn];rfl⟩
theorem plain_out (o:OutS):Flat 20 (eOut o)∧Unl 22 (eOut o):=⟨flat_cells (by
  intro x hx
  simp only [List.mem_cons,List.not_mem_nil,or_false]at hx
  rcases hx with rfl|rfl|rfl|rfl|rfl|rfl|rfl|rfl
  all_goals first|exact flat_int _ _|exact flat_eL false 5 eCons o.pred|exact fun t h m hm=>by obtain ⟨q,rfl,_⟩:=pos_of_le hm;rfl),unl_cells (by
  intro x hx
  simp only [List.mem_cons,List.not_mem_nil,or_false]at hx
  rcases hx with rfl|rfl|rfl|rfl|rfl|rfl|rfl|rfl
  all_goals first|exact (unl_int _ _).mono (by decide)|exact (unl_pred o.pred).mono (by decide)|exact fun n hn=>by obtain ⟨q,rfl,_⟩:=pos_of_le (k:=20) hn;simp [unlent])⟩
theorem out_res {lo:Nat} {h:Heap} {v:DV} {ety:Nat} {es:List DV} {os:List OutS} (w:OwnR lo h v ety 8 es) (r:RowR es os) (tag:Bool) {n:Nat} (hn:22≤n):resolve tag h n v=some (eL tag 8 eOut os):=by
 obtain ⟨m,rfl,hm⟩:=pos_of_le (k:=21) hn
 cases w with
 | nil hv hx =>
  subst hv;subst hx
  have:os=[]:=List.length_eq_zero_iff.1 r.1.symm
  subst this;rfl
 | arr id sp cap hv hg hl hi =>
  subst hv
  have hmm:=r.2 tag h m hm
  simp only [Dm.resolve,hg,true_and,Nat.zero_add,List.length_append,Nat.le_add_right,if_true,List.drop_zero,List.take_left,hmm]
  rfl
def toAll (near:List Int) (but k tc td ic id:Int) (p:Pred):List OutS:=(near.filter fun n=>!decide (n=but)).map fun n=>⟨n,k,⟨tc,td⟩,⟨ic,id⟩,p⟩
def rawAll (near:List Int) (but k tc td ic id:Int) (pd ad:DV):List DV:=(near.filter fun n=>!decide (n=but)).map fun n=>rawO n k tc td ic id pd ad
theorem rawAll_row {but k tc td ic id:Int} {pd ad:DV} {p:Pred} (hp:Means pd p) (ha:Nils ad):∀(near:List Int),RowR (rawAll near but k tc td ic id pd ad) (toAll near but k tc td ic id p)
 | []=>RowR.nil
 | x::r=>by
  have ih:=rawAll_row (but:=but) (k:=k) (tc:=tc) (td:=td) (ic:=ic) (id:=id) hp ha r
  unfold rawAll toAll at *
  by_cases hx:x=but
  ·simp only [List.filter_cons,hx,decide_true,Bool.not_true,Bool.false_eq_true,if_false];exact ih
  ·simp only [List.filter_cons,hx,decide_false,Bool.not_false,if_true,List.map_cons]
   exact RowR.append (RowR.one (to:=x) hp ha) ih
theorem l49 (t:Tags) (b:Broker) (but k tc td ic id:Int) (pd ad:DV) (N:Nat) (ta tb:Nat) (hl:b.near.length≤1000000) (h0:Heap) (g0:h0.get N=some (.arr ta 6 [eBroker t b] (some 1))) (g1:h0.get (N+1)=some (.arr tb 7 [.agg [.int .i64 k,.int .i64 tc,.int .i64 td,.int .i64 ic,.int .i64 id,pd,ad]] (some 1))) (hlm:h0.lim≤N) :
  ∀(rest:List Int) (i:Nat) (es:List DV) (v:DV) (f:FEnv) (h:Heap),b.near.drop i=rest→es.length≤i→f 1=.int .i64 but→f 3=.ptr N 6 0 0→f 5=.ptr (N+1) 7 0 0→f 7=v→f 11=eL t.near 1 cInt b.near→f 12=.int .i64 b.near.length→f 13=.int .i64 i→OwnR (N+2) h v 86 8 es→Ext (N+2) h0 h →
  ∃ v' h',fin [.t 6] (run D 28 [.block 0,.seq t49k0] (.loop t49l0) f h)=some (v',h')∧OwnR (N+2) h' v' 86 8 (es++rawAll rest but k tc td ic id pd ad)∧Ext (N+2) h0 h':=by
 intro rest
 induction rest with
 | nil =>
  intro i es v f h hd he h1 h3 h5 h7 h11 h12 h13 ho x
  have hi:=drop_nil hd
  have:¬(i<b.near.length):=by omega
  rw [run_loop_of t49l0.eq_1]
  simp [t49k0,h12,h13,this,h7]
  first
   | exact ⟨_,_,⟨rfl,rfl⟩,by simpa [rawAll] using ho,x⟩
   | exact ⟨by simpa [rawAll] using ho,x⟩
 | cons y rest ih =>
  intro i es v f h hd he h1 h3 h5 h7 h11 h12 h13 ho x
  obtain ⟨hi,he',hd'⟩:=drop_at hd
  have a0:=(x.get N (by omega)).trans g0
  have a1:=(x.get (N+1) (by omega)).trans g1
  rw [run_loop_of t49l0.eq_1]
  by_cases hy:y=but
  ·subst hy
   simp [h1,h3,h5,h7,h11,h12,h13,hi,he',cInt]
   rw [wrap64 (by omega) (by omega)]
   generalize hF:upd _ 13 _=F
   have hr:rawAll (y::rest) y k tc td ic id pd ad=rawAll rest y k tc td ic id pd ad:=by simp [rawAll]
   rw [hr]
   refine ih (i+1) es v F h hd' (by omega) ?_ ?_ ?_ ?_ ?_ ?_ ?_ ho x
   all_goals (rw [←hF];simp [h1,h3,h5,h7,h11,h12])
  ·simp [h1,h3,h5,h7,h11,h12,h13,hi,he',hy,a1,cInt]
   generalize hA:appendD _ _ _ _ _ _=A
   obtain ⟨v',K,rfl,p',x',_⟩:=OwnR.append (ho.push) (by simp [x.wf]) (by have:=x.le;simp;omega) (by have:=x.le;have:=x.lim;simp;omega) hA (by simp;omega) (by decide)
   clear hA
   simp [h13]
   rw [wrap64 (by omega) (by omega)]
   generalize hF:upd _ 13 _=F
   have hr:rawAll (y::rest) but k tc td ic id pd ad=rawO y k tc td ic id pd ad::rawAll rest but k tc td ic id pd ad:=by simp [rawAll,hy]
   obtain ⟨v2,K2,k1,k2,k3⟩:=ih (i+1) (es++[rawO y k tc td ic id pd ad]) v' F K hd' (by simp;omega) (by rw [←hF];simp [h1]) (by rw [←hF];simp [h3]) (by rw [←hF];simp [h5]) (by rw [←hF];simp) (by rw [←hF];simp [h11]) (by rw [←hF];simp [h12]) (by rw [←hF];simp) (by simpa [rawO] using p') (x.push.trans x')
   exact ⟨v2,K2,k1,by rw [hr];simpa using k2,k3⟩
theorem q49 {h:Heap} {A:Option (DV×Heap)} {t:Tags} {b:Broker} {but k tc td ic id:Int} {pd ad:DV} (hA:fc D 49 [eBroker t b,.int .i64 but,.agg [.int .i64 k,.int .i64 tc,.int .i64 td,.int .i64 ic,.int .i64 id,pd,ad]] h=A) (hl:b.near.length≤1000000) (wf:WF h) (hlim:h.lim≤h.n) :
  ∃ v' h',A=some (v',h')∧OwnR h.n h' v' 86 8 (rawAll b.near but k tc td ic id pd ad)∧Ext h.n h h':=by
 subst hA
 rw [e49,goRun_eq _ _ _ _ (by simp [t49])]
 simp [t49]
 generalize hF:upd _ 13 _=F
 generalize hH:Heap.push _ _=H0
 have hn:h.n+2≤H0.n:=by rw [←hH];simp
 have g0:H0.get h.n=some (.arr 29 6 [eBroker t b] (some 1)):=by rw [←hH];simp
 have g1:H0.get (h.n+1)=some (.arr 84 7 [.agg [.int .i64 k,.int .i64 tc,.int .i64 td,.int .i64 ic,.int .i64 id,pd,ad]] (some 1)):=by rw [←hH];simp
 have hw:WF H0:=by rw [←hH];simp [wf]
 have hm:H0.lim≤h.n:=by rw [←hH];simpa using hlim
 obtain ⟨v',h',k1,k2,k3⟩:=l49 t b but k tc td ic id pd ad h.n _ _ hl H0 g0 g1 hm b.near 0 [] .nsl F H0 rfl (by simp) (by rw [←hF];simp) (by rw [←hF];simp) (by rw [←hF];simp) (by rw [←hF];simp) (by rw [←hF];simp) (by rw [←hF];simp) (by rw [←hF];simp) (.nil rfl rfl) (.refl hn hw)
 refine ⟨v',h',k1,by simpa using k2.lower (by omega:h.n≤h.n+2),?_⟩
 have k4:=k3.lower (by omega:h.n≤h.n+2)
 refine ⟨k4.le,by rw [k4.lim,←hH];simp,fun id hid=>?_,k4.wf⟩
 rw [k4.get id hid,←hH]
 have e1:¬id=h.n:=by omega
 have e2:¬id=h.n+1:=by omega
 simp [e1,e2]
end Go.Dm.Tc
/-
What functions compute,part 35: an advertisement comes by a link.
-/
namespace Go.Dm.Tc
theorem s120 (tc td sc sd:Int) (p:Pred) (q:Int) (u:Bool):pcF D t120 [.agg [.int .i64 tc,.int .i64 td,.int .i64 sc,.int .i64 sd,ePred p,.int .i64 q,.bool u]]=some (.agg [.int .i64 3,.int .i64 tc,.int .i64 td,.int .i64 sc,.int .i64 sd,ePred p,.isl false 0 []]):=by
 unfold pcF
 rw [goRun_eq _ _ _ _ (by simp [t120])]
 simp [t120,turn]
theorem s122 (tc td sc sd:Int) (p:Pred) (q:Int) (u:Bool):pcF D t122 [.agg [.int .i64 tc,.int .i64 td,.int .i64 sc,.int .i64 sd,ePred p,.int .i64 q,.bool u]]=some (.agg [.int .i64 3,.int .i64 tc,.int .i64 td,.int .i64 sc,.int .i64 sd,ePred p,.isl false 0 []]):=by
 unfold pcF
 rw [goRun_eq _ _ _ _ (by simp [t122])]
 simp [t122,turn]
structure ZL (b:Broker) (k:Nat):Prop where
 near:b.near.length≤100000
 adv:b.adverts.length≤100000
 seen:b.seen.length≤100000
 own:b.owns.length≤100000
 ent:b.entries.length+k≤100000
theorem ZL.sized {b:Broker} {k:Nat} (h:ZL b k):Sized b:=⟨h.near,h.adv,h.seen,by have:=h.ent;omega,h.own⟩
theorem ZL.less {b:Broker} {k m:Nat} (h:ZL b k) (hm:m≤k):ZL b m:=⟨h.near,h.adv,h.seen,h.own,by have:=h.ent;omega⟩
theorem addB_rows (b:Broker) (e:Entry):(addB b e).1.near=b.near∧(addB b e).1.adverts=b.adverts∧(addB b e).1.seen=b.seen∧(addB b e).1.owns=b.owns∧(addB b e).1.me=b.me∧(addB b e).1.entries.length≤b.entries.length+1:=by
 unfold addB
 split
 ·exact ⟨rfl,rfl,rfl,rfl,rfl,by simp only [insE_len];omega⟩
 ·exact ⟨rfl,rfl,rfl,rfl,rfl,by simp⟩
theorem ZL.add {b:Broker} {k:Nat} (h:ZL b (k+1)) (e:Entry):ZL (addB b e).1 k:=by
 obtain ⟨h1,h2,h3,h4,_,h5⟩:=addB_rows b e
 have:=h.ent
 exact ⟨by rw [h1];exact h.near,by rw [h2];exact h.adv,by rw [h3];exact h.seen,by rw [h4];exact h.own,by omega⟩
def advStep (frm:Int) (x:ID) (p:Pred) (st:Broker×List OutS) (o:OwnS):Broker×List OutS :=
 if meetsP o.pred p=true then ((addB st.1 ⟨x,o.id,o.pred,-1,false⟩).1,if (addB st.1 ⟨x,o.id,o.pred,-1,false⟩).2=true then st.2++[⟨frm,3,x,o.id,o.pred⟩] else st.2)
 else st
def advertiseB (b:Broker) (frm:Int) (x:ID) (p:Pred):Broker×List OutS :=
 if (learnB b ⟨x,p,frm⟩).2=true then b.owns.foldl (advStep frm x p) ((learnB b ⟨x,p,frm⟩).1,toAll b.near frm 1 x.client x.seq 0 0 p) else (b,[])
def zB:DV:=.agg [.int .i64 0,.nsl,.nsl,.nsl,.nsl,.nsl]
theorem l42 (xc xd frm:Int) (p:Pred) (hp:PredOk p) (t:Bool) (owns:List OwnS) (ho:∀o∈owns,PredOk o.pred) (hl:owns.length≤100000) (tx tb tn:Nat) :
  ∀(rest:List OwnS) (i:Nat) (nb:Broker) (outs:List OutS) (es:List DV) (v:DV) (f:FEnv) (h:Heap),owns.drop i=rest→InvK nb→ZL nb rest.length→RowR es outs→es.length+rest.length≤1000000 →
  f 1=.int .i64 frm→f 3=ePred p→f 6=.ptr 1 2 0 0→f 8=.ptr 2 6 0 0→f 10=.ptr 3 6 0 0→f 12=v→f 36=eL t 3 eOwn owns→f 37=.int .i64 owns.length→f 38=.int .i64 i →
  h.get 1=some (.arr tx 2 [.agg [.int .i64 xc,.int .i64 xd]] (some 1))→h.get 2=some (.arr tb 6 [zB] (some 1))→h.get 3=some (.arr tn 6 [eBroker .none nb] (some 1))→OwnR 4 h v 86 8 es→h.lim=0→4≤h.n→WF h →
  pcOut (fin [.cell 8 (some 6),.t 9] (run D 70 [.block 0,.seq t42k0] (.loop t42l0) f h))=some (.tup [eBroker .none (rest.foldl (advStep frm ⟨xc,xd⟩ p) (nb,outs)).1,eL false 8 eOut (rest.foldl (advStep frm ⟨xc,xd⟩ p) (nb,outs)).2]):=by
 intro rest
 induction rest with
 | nil =>
  intro i nb outs es v f h hd hi0 hz hr hes h1 h3 h6 h8 hB hO hW hL hI g1 g2 gB hv hlim hn wf
  have hi:=drop_nil hd
  have:¬(i<owns.length):=by omega
  have l2:2<h.n:=by omega
  have n2:¬3=2:=by decide
  have r1:=fun o=>out_res (hv.setLow (o:=o) wf (by decide:2<4) l2) hr false (n:=199) (by decide)
  have hu:unlent 199 (eL false 8 eOut outs)=true:=unl_eL (fun y _=>(plain_out y).2) 199 (by decide)
  rw [run_loop_of t42l0.eq_1]
  simp only [zB]at g2
  simp [t42k0,hL,hI,this,h8,hB,hO,gB,g2,hlim,l2,wf,turn,resultsOf,r1,hu]
 | cons o rest ih =>
  intro i nb outs es v f h hd hi0 hz hr hes h1 h3 h6 h8 hB hO hW hL hI g1 g2 gB hv hlim hn wf
  obtain ⟨hi,he,hd'⟩:=drop_at hd
  have hop:=ho o (by rw [←he];exact List.getElem_mem hi)
  obtain ⟨⟨oc,od⟩,op⟩:=o
  simp only at hop
  have hm:=s47 op p hop hp
  have hadd:=kAdd hi0 hz.sized xc xd oc od hop (-1) false
  have hi1:=hi0.add (e:=⟨⟨xc,xd⟩,⟨oc,od⟩,op,-1,false⟩) (by simp [linkB]) hop
  have hz1:=hz.add ⟨⟨xc,xd⟩,⟨oc,od⟩,op,-1,false⟩
  obtain ⟨m,hmn⟩:∃ m,h.n=m+4:=⟨h.n-4,by omega⟩
  simp only [List.length_cons]at hes
  rw [run_loop_of t42l0.eq_1]
  simp only [List.foldl_cons]
  cases hq:meetsP op p with
  | false =>
   rw [hq]at hm
   have hst:advStep frm ⟨xc,xd⟩ p (nb,outs) ⟨⟨oc,od⟩,op⟩=(nb,outs):=by simp [advStep,hq]
   rw [hst]
   simp [hL,hI,hW,hi,he,eOwn,h3,hlim,wf,turn,e47,hm]
   rw [wrap64 (by omega) (by omega)]
   generalize hF:upd _ 38 _=F
   refine ih (i+1) nb outs es v F _ hd' hi0 (hz.less (by simp)) hr (by omega) ?_ ?_ ?_ ?_ ?_ ?_ ?_ ?_ ?_ ?_ ?_ ?_ hv.push ?_ ?_ ?_
   all_goals first
    | (rw [←hF];simp [h1,h3,h6,h8,hB,hO,hW,hL];done)
    | (simp [hmn,g1,g2,gB,hlim,wf];done)
    | (simp [hmn];omega)
  | true =>
   rw [hq]at hm
   cases hu:(addB nb ⟨⟨xc,xd⟩,⟨oc,od⟩,op,-1,false⟩).2 with
   | false =>
    rw [hu]at hadd
    have hst:advStep frm ⟨xc,xd⟩ p (nb,outs) ⟨⟨oc,od⟩,op⟩=((addB nb ⟨⟨xc,xd⟩,⟨oc,od⟩,op,-1,false⟩).1,outs):=by simp [advStep,hq,hu]
    rw [hst]
    simp [hL,hI,hW,hi,he,eOwn,h3,h6,hB,hmn,g1,gB,hlim,wf,turn,e47,hm,e31,hadd]
    rw [wrap64 (by omega) (by omega)]
    generalize hF:upd _ 38 _=F
    refine ih (i+1) _ outs es v F _ hd' hi1 hz1 hr (by omega) ?_ ?_ ?_ ?_ ?_ ?_ ?_ ?_ ?_ ?_ ?_ ?_ (((hv.setLow wf (by decide:3<4) (by omega)).push).push) ?_ ?_ ?_
    all_goals first
     | (rw [←hF];simp [h1,h3,h6,h8,hB,hO,hW,hL];done)
     | (simp [hmn,g1,g2,gB,hlim,wf];done)
     | (simp [hmn];omega)
   | true =>
    rw [hu]at hadd
    have hst:advStep frm ⟨xc,xd⟩ p (nb,outs) ⟨⟨oc,od⟩,op⟩=((addB nb ⟨⟨xc,xd⟩,⟨oc,od⟩,op,-1,false⟩).1,outs++[⟨frm,3,⟨xc,xd⟩,⟨oc,od⟩,op⟩]):=by simp [advStep,hq,hu]
    rw [hst]
    simp [hL,hI,hW,hi,he,eOwn,h1,h3,h6,hB,hO,hmn,g1,gB,hlim,wf,turn,e47,hm,e31,hadd,e120,s120]
    generalize hA:appendD _ _ _ _ _ _=A
    obtain ⟨v',K,rfl,p',x',_⟩:=OwnR.append ((((hv.setLow wf (by decide:3<4) (by omega)).push).push).push) (by simp [wf]) (by simp [hmn]<;>omega) (by simp [hlim]) hA (by simp;omega) (by decide)
    clear hA
    have a1:=x'.get 1 (by decide)
    have a2:=x'.get 2 (by decide)
    have aB:=x'.get 3 (by decide)
    have al:=x'.lim
    simp [hmn,g1,g2,gB,hlim,wf]at a1 a2 aB al
    have hr':=RowR.append hr (RowR.one (to:=frm) (k:=3) (tc:=xc) (td:=xd) (ic:=oc) (id:=od) (pd:=ePred op) (ad:=.isl false 0 []) (.inl rfl) (.inr rfl))
    simp [hI]
    rw [wrap64 (by omega) (by omega)]
    generalize hF:upd _ 38 _=F
    refine ih (i+1) _ _ _ v' F K hd' hi1 hz1 hr' (by simp;omega) ?_ ?_ ?_ ?_ ?_ ?_ ?_ ?_ ?_ a1 a2 aB (by simpa [rawO] using p') al x'.le x'.wf
    all_goals (rw [←hF];simp [h1,h3,h6,h8,hB,hO,hW,hL])
theorem s42 (b:Broker) (xc xd frm:Int) (p:Pred) (hi:InvK b) (hz:ZL b b.owns.length) (hp:PredOk p) (hf:linkB b frm=true) (hlow:b.adverts.length<100000∧b.seen.length<100000) :
  pcF D t42 [eBroker .none b,.int .i64 frm,.agg [.int .i64 xc,.int .i64 xd],ePred p]=some (.tup [eBroker .none (advertiseB b frm ⟨xc,xd⟩ p).1,eL false 8 eOut (advertiseB b frm ⟨xc,xd⟩ p).2]):=by
 have hlearn:pcF D t19 [eBroker .none b,.agg [.int .i64 xc,.int .i64 xd,ePred p,.int .i64 frm]]=some (.tup [eBroker .none (learnB b ⟨⟨xc,xd⟩,p,frm⟩).1,.bool (learnB b ⟨⟨xc,xd⟩,p,frm⟩).2]):=by
  first
   | exact kLearn hi hz.sized xc xd p frm
   | exact kLearn .none hi hz.sized xc xd p frm
 have hi1:=hi.learn (a:=⟨⟨xc,xd⟩,p,frm⟩) hf hp
 have hz1:ZL (learnB b ⟨⟨xc,xd⟩,p,frm⟩).1 b.owns.length:=by
  obtain ⟨h1,h2,h3,h4,h5⟩:=hz
  unfold learnB
  split
  ·exact ⟨h1,h2,h3,h4,h5⟩
  ·refine ⟨h1,?_,?_,h4,h5⟩
   ·have:=lowIdx_le (fun a:Advert=>cmpID a.id ⟨xc,xd⟩) b.adverts
    simp only [insAt,List.length_append,List.length_cons,List.length_take,List.length_drop];omega
   ·have:=lowIdx_le (fun a:ID=>cmpID a ⟨xc,xd⟩) b.seen
    simp only [insAt,List.length_append,List.length_cons,List.length_take,List.length_drop];omega
 unfold pcF
 rw [goRun_eq _ _ _ _ (by simp [t42])]
 cases hq:(learnB b ⟨⟨xc,xd⟩,p,frm⟩).2 with
 | false =>
  rw [hq]at hlearn
  have ha:advertiseB b frm ⟨xc,xd⟩ p=(b,[]):=by simp [advertiseB,hq]
  rw [ha]
  have hb:(learnB b ⟨⟨xc,xd⟩,p,frm⟩).1=b:=by
   unfold learnB at hq ⊢
   split at hq
   ·rename_i hs;rw [if_pos hs]
   ·cases hq
  rw [hb]at hlearn
  simp [t42,e19,hlearn,turn,resultsOf,eL_nil]
 | true =>
  rw [hq]at hlearn
  have ha:advertiseB b frm ⟨xc,xd⟩ p=b.owns.foldl (advStep frm ⟨xc,xd⟩ p) ((learnB b ⟨⟨xc,xd⟩,p,frm⟩).1,toAll b.near frm 1 xc xd 0 0 p):=by simp [advertiseB,hq]
  rw [ha]
  simp [t42,e19,hlearn,turn]
  generalize hA:fc D _ _ _=A
  obtain ⟨v1,K,rfl,o1,x1⟩:=q49 hA (Nat.le_trans hz.near (by decide)) (by simp) (by simp)
  clear hA
  have hnear:(learnB b ⟨⟨xc,xd⟩,p,frm⟩).1.near=b.near:=by unfold learnB;split<;>rfl
  have howns:(learnB b ⟨⟨xc,xd⟩,p,frm⟩).1.owns=b.owns:=by unfold learnB;split<;>rfl
  have a0:=x1.get 0 (by simp)
  have a1:=x1.get 1 (by simp)
  have a2:=x1.get 2 (by simp)
  have aB:=x1.get 3 (by simp)
  have al:=x1.lim
  simp at a0 a1 a2 aB al o1
  simp [a0,aB,howns]
  generalize hF:upd _ 38 _=F
  have hrow:=rawAll_row (but:=frm) (k:=1) (tc:=xc) (td:=xd) (ic:=0) (id:=0) (pd:=ePred p) (ad:=.nsl) (.inl rfl) (.inl rfl) b.near
  have hlen:(rawAll b.near frm 1 xc xd 0 0 (ePred p) .nsl).length≤b.near.length:=by unfold rawAll;rw [List.length_map];exact List.length_filter_le ..
  have z1:=hz.near
  have z2:=hz.own
  try simp only [hnear]at o1
  refine l42 xc xd frm p hp false b.owns hi.po z2 _ _ _ b.owns 0 _ _ _ v1 F K rfl hi1 hz1 hrow (by omega) ?_ ?_ ?_ ?_ ?_ ?_ ?_ ?_ ?_ a1 a2 aB o1 al (by have:=x1.le;simpa using this) x1.wf
  all_goals first|(rw [←hF];simp;done)|(rw [←hF];simp [Tags.none])
end Go.Dm.Tc
/-
What functions compute,part 36: an advertisement taken back;a broker's side.
-/
namespace Go.Dm.Tc
theorem _root_.Go.Dm.OwnR.wl {lo:Nat} {h:Heap} {v:DV} {ety sz:Nat} {xs:List DV} (w:OwnR lo h v ety sz xs) {m:Nat} (hm:m≤lo):OwnR lo (Dm.wl h m) v ety sz xs:=by
 cases w with
 | nil hv hx=>exact .nil hv hx
 | arr id sp cap hv hg hl hi=>exact .arr id sp cap hv hg (Nat.le_trans hm hi) hi
def unadvertiseB (b:Broker) (frm:Int) (x:ID):Broker×List OutS :=
 if (forgetB b x frm).2=true then ((forgetB b x frm).1,toAll b.near frm 2 x.client x.seq 0 0 []) else (b,[])
end Go.Dm.Tc
/-
What the reference's functions compute,part 12: a client of the broker's subscribes.
-/
namespace Go.Dm.Tc
def subOwn (b:Broker) (x:ID) (p:Pred):Broker:={b with owns:=insAt (fun o=>o.id) ⟨x,p⟩ b.owns}
def subStep (x:ID) (p:Pred) (st:Broker×List OutS) (a:Advert):Broker×List OutS :=
 if meetsP p a.pred=true then ((addB st.1 ⟨a.id,x,p,-1,false⟩).1,if (addB st.1 ⟨a.id,x,p,-1,false⟩).2=true then st.2++[⟨a.parent,3,a.id,x,p⟩] else st.2)
 else st
def subscribeB (b:Broker) (x:ID) (p:Pred):Broker×List OutS :=
 if hitAt (fun o:OwnS=>cmpID o.id x) b.owns=true then (b,[]) else b.adverts.foldl (subStep x p) (subOwn b x p,[])
theorem l46 (xc xd:Int) (p:Pred) (hp:PredOk p) (t:Bool) (advs:List Advert) (ho:∀o∈advs,PredOk o.pred) (hl:advs.length≤100000) (tx tb tn:Nat) :
  ∀(rest:List Advert) (i:Nat) (nb:Broker) (outs:List OutS) (es:List DV) (v:DV) (f:FEnv) (h:Heap),advs.drop i=rest→InvK nb→ZL nb rest.length→RowR es outs→es.length+rest.length≤1000000 →
  f 2=ePred p→f 3=.ptr 0 6 0 0→f 4=.ptr 1 2 0 0→f 6=.ptr 2 6 0 0→f 9=v→f 65=eL t 4 eAdvert advs→f 66=.int .i64 advs.length→f 67=.int .i64 i →
  h.get 1=some (.arr tx 2 [.agg [.int .i64 xc,.int .i64 xd]] (some 1))→h.get 2=some (.arr tb 6 [zB] (some 1))→h.get 0=some (.arr tn 6 [eBroker .none nb] (some 1))→OwnR 3 h v 86 8 es→h.lim=0→3≤h.n→WF h →
  pcOut (fin [.cell 6 (some 6),.t 7] (run D 99 [.block 2,.seq t46k0] (.loop t46l1) f h))=some (.tup [eBroker .none (rest.foldl (subStep ⟨xc,xd⟩ p) (nb,outs)).1,eL false 8 eOut (rest.foldl (subStep ⟨xc,xd⟩ p) (nb,outs)).2]):=by
 intro rest
 induction rest with
 | nil =>
  intro i nb outs es v f h hd hi0 hz hr hes h2 h3 h4 h6 h9 hW hL hI g1 g2 gB hv hlim hn wf
  have hi:=drop_nil hd
  have:¬(i<advs.length):=by omega
  have l2:2<h.n:=by omega
  have r1:=fun o=>out_res (hv.setLow (o:=o) wf (by decide:2<3) l2) hr false (n:=199) (by decide)
  have hu:unlent 199 (eL false 8 eOut outs)=true:=unl_eL (fun y _=>(plain_out y).2) 199 (by decide)
  rw [run_loop_of t46l1.eq_1]
  simp only [zB]at g2
  simp [t46k0,hL,hI,this,h3,h6,h9,gB,g2,hlim,l2,wf,turn,resultsOf,r1,hu]
 | cons o rest ih =>
  intro i nb outs es v f h hd hi0 hz hr hes h2 h3 h4 h6 h9 hW hL hI g1 g2 gB hv hlim hn wf
  obtain ⟨hi,he,hd'⟩:=drop_at hd
  have hop:=ho o (by rw [←he];exact List.getElem_mem hi)
  obtain ⟨⟨oc,od⟩,op,oq⟩:=o
  simp only at hop
  have hm:=s121 p op hp hop
  have hadd:=kRAdd hi0 hz.sized oc od xc xd hp (-1) false
  have hi1:=hi0.add (e:=⟨⟨oc,od⟩,⟨xc,xd⟩,p,-1,false⟩) (by simp [linkB]) hp
  have hz1:=hz.add ⟨⟨oc,od⟩,⟨xc,xd⟩,p,-1,false⟩
  obtain ⟨m,hmn⟩:∃ m,h.n=m+3:=⟨h.n-3,by omega⟩
  simp only [List.length_cons]at hes
  rw [run_loop_of t46l1.eq_1]
  simp only [List.foldl_cons]
  cases hq:meetsP p op with
  | false =>
   rw [hq]at hm
   have hst:subStep ⟨xc,xd⟩ p (nb,outs) ⟨⟨oc,od⟩,op,oq⟩=(nb,outs):=by simp [subStep,hq]
   rw [hst]
   simp [hL,hI,hW,hi,he,eAdvert,h2,hlim,wf,turn,e121,hm]
   rw [wrap64 (by omega) (by omega)]
   generalize hF:upd _ 67 _=F
   refine ih (i+1) nb outs es v F _ hd' hi0 (hz.less (by simp)) hr (by omega) ?_ ?_ ?_ ?_ ?_ ?_ ?_ ?_ ?_ ?_ ?_ hv.push ?_ ?_ ?_
   all_goals first
    | (rw [←hF];simp [h2,h3,h4,h6,h9,hW,hL];done)
    | (simp [hmn,g1,g2,gB,hlim,wf];done)
    | (simp [hmn]<;>omega)
  | true =>
   rw [hq]at hm
   cases hu:(addB nb ⟨⟨oc,od⟩,⟨xc,xd⟩,p,-1,false⟩).2 with
   | false =>
    rw [hu]at hadd
    have hst:subStep ⟨xc,xd⟩ p (nb,outs) ⟨⟨oc,od⟩,op,oq⟩=((addB nb ⟨⟨oc,od⟩,⟨xc,xd⟩,p,-1,false⟩).1,outs):=by simp [subStep,hq,hu]
    rw [hst]
    simp [hL,hI,hW,hi,he,eAdvert,h2,h3,h4,hmn,g1,gB,hlim,wf,turn,e121,hm,e37,hadd]
    rw [wrap64 (by omega) (by omega)]
    generalize hF:upd _ 67 _=F
    refine ih (i+1) _ outs es v F _ hd' hi1 hz1 hr (by omega) ?_ ?_ ?_ ?_ ?_ ?_ ?_ ?_ ?_ ?_ ?_ (((hv.setLow wf (by decide:0<3) (by omega)).push).push) ?_ ?_ ?_
    all_goals first
     | (rw [←hF];simp [h2,h3,h4,h6,h9,hW,hL];done)
     | (simp [hmn,g1,g2,gB,hlim,wf];done)
     | (simp [hmn]<;>omega)
   | true =>
    rw [hu]at hadd
    have hst:subStep ⟨xc,xd⟩ p (nb,outs) ⟨⟨oc,od⟩,op,oq⟩=((addB nb ⟨⟨oc,od⟩,⟨xc,xd⟩,p,-1,false⟩).1,outs++[⟨oq,3,⟨oc,od⟩,⟨xc,xd⟩,p⟩]):=by simp [subStep,hq,hu]
    rw [hst]
    simp [hL,hI,hW,hi,he,eAdvert,h2,h3,h4,h9,hmn,g1,gB,hlim,wf,turn,e121,hm,e37,hadd,e122,s122]
    generalize hA:appendD _ _ _ _ _ _=A
    obtain ⟨v',K,rfl,p',x',_⟩:=OwnR.append ((((hv.setLow wf (by decide:0<3) (by omega)).push).push).push) (by simp [wf]) (by simp [hmn]<;>omega) (by simp [hlim]) hA (by simp;omega) (by decide)
    clear hA
    have a1:=x'.get 1 (by decide)
    have a2:=x'.get 2 (by decide)
    have aB:=x'.get 0 (by decide)
    have al:=x'.lim
    simp [hmn,g1,g2,gB,hlim,wf]at a1 a2 aB al
    have hr':=RowR.append hr (RowR.one (to:=oq) (k:=3) (tc:=oc) (td:=od) (ic:=xc) (id:=xd) (pd:=ePred p) (ad:=.isl false 0 []) (.inl rfl) (.inr rfl))
    simp [hI]
    rw [wrap64 (by omega) (by omega)]
    generalize hF:upd _ 67 _=F
    refine ih (i+1) _ _ _ v' F K hd' hi1 hz1 hr' (by simp;omega) ?_ ?_ ?_ ?_ ?_ ?_ ?_ ?_ a1 a2 aB (by simpa [rawO] using p') al x'.le x'.wf
    all_goals (rw [←hF];simp [h2,h3,h4,h6,h9,hW,hL])
end Go.Dm.Tc
/-
What the reference's functions compute,part 13: a client of the broker's subscribes,with its row still written.
-/
namespace Go.Dm.Tc
theorem fr_own {lo:Nat} {h:Heap} {i ety:Nat} {os:List OwnS} {n:Nat} (o:OwnI lo h i ety 3 (os.map eOwn)) (hn:n=os.length):freeze h (.sl i 3 0 n)=some (eL false 3 eOwn os,h.set i .dead):=by
 subst hn
 obtain ⟨⟨sp,cap,hg⟩,hl,_⟩:=o
 have hb:(List.take os.length (List.map eOwn os++sp)).all (below 200 0)=true:=by
  rw [List.take_left' (by simp),List.all_eq_true]
  intro x hx
  obtain ⟨y,_,rfl⟩:=List.mem_map.1 hx
  exact (dep_own y).belowN (by decide)
 simp only [freeze,hg,hl,List.drop_zero,hb,List.length_append,List.length_map,Nat.zero_add,Nat.le_add_right,and_self,if_true]
 rw [List.take_left' (by simp)]
 cases os<;>rfl
theorem n46 (xc xd:Int) (p:Pred) (hp:PredOk p) (t:Bool) (advs:List Advert) (ho:∀o∈advs,PredOk o.pred) (hl:advs.length≤100000) (tx tb tn:Nat) (nb:Broker) (hi0:InvK nb) (iw:Nat) :
  ∀(rest:List Advert) (i:Nat) (f:FEnv) (h:Heap),advs.drop i=rest→ZL nb rest.length →
  f 2=ePred p→f 3=.ptr 0 6 0 0→f 4=.ptr 1 2 0 0→f 6=.ptr 2 6 0 0→f 9=.nsl→f 65=eL t 4 eAdvert advs→f 66=.int .i64 advs.length→f 67=.int .i64 i →
  h.get 1=some (.arr tx 2 [.agg [.int .i64 xc,.int .i64 xd]] (some 1))→h.get 2=some (.arr tb 6 [zB] (some 1)) →
  h.get 0=some (.arr tn 6 [.agg [.int .i64 nb.me,eL false 1 cInt nb.near,eL false 4 eAdvert nb.adverts,eL false 2 eID nb.seen,eL false 7 eEntry nb.entries,.sl iw 3 0 nb.owns.length]] (some 1))→OwnI 3 h iw 60 3 (nb.owns.map eOwn)→h.lim=0→3≤h.n→WF h →
  pcOut (fin [.cell 6 (some 6),.t 7] (run D 99 [.block 2,.seq t46k0] (.loop t46l1) f h))=some (.tup [eBroker .none (rest.foldl (subStep ⟨xc,xd⟩ p) (nb,[])).1,eL false 8 eOut (rest.foldl (subStep ⟨xc,xd⟩ p) (nb,[])).2]):=by
 intro rest
 induction rest with
 | nil =>
  intro i f h hd hz h2 h3 h4 h6 h9 hW hL hI g1 g2 gB hv hlim hn wf
  have hi:=drop_nil hd
  have:¬(i<advs.length):=by omega
  have l2:2<h.n:=by omega
  have r1:∀o,resolve false (h.set 2 o) 198 (.sl iw 3 0 nb.owns.length)=some (eL false 3 eOwn nb.owns):=fun o=>by
   have:=(hv.setLow (o:=o) wf (by decide:2<3) l2).toR.resolve (n:=198) false (fun y _=>(plain_own y).1) (by decide)
   simpa using this
  have hu:=ul_owns 174 nb.owns
  rw [run_loop_of t46l1.eq_1]
  simp only [zB]at g2
  simp [t46k0,hL,hI,this,h3,h6,h9,gB,g2,hlim,l2,wf,turn,resultsOf,r1]
  exact ⟨rfl,rfl⟩
 | cons o rest ih =>
  intro i f h hd hz h2 h3 h4 h6 h9 hW hL hI g1 g2 gB hv hlim hn wf
  obtain ⟨hi,he,hd'⟩:=drop_at hd
  have hop:=ho o (by rw [←he];exact List.getElem_mem hi)
  obtain ⟨⟨oc,od⟩,op,oq⟩:=o
  simp only at hop
  have hm:=s121 p op hp hop
  have hadd:=kRAdd hi0 hz.sized oc od xc xd hp (-1) false
  have hi1:=hi0.add (e:=⟨⟨oc,od⟩,⟨xc,xd⟩,p,-1,false⟩) (by simp [linkB]) hp
  have hz1:=hz.add ⟨⟨oc,od⟩,⟨xc,xd⟩,p,-1,false⟩
  obtain ⟨m,hmn⟩:∃ m,h.n=m+3:=⟨h.n-3,by omega⟩
  have hil:=hv.lt
  have hi3:=hv.lo
  have k0:¬iw=0:=by omega
  have k1:¬iw=1:=by omega
  have k2:¬iw=2:=by omega
  have k0':¬0=iw:=by omega
  have k1':¬1=iw:=by omega
  have k2':¬2=iw:=by omega
  have k3:¬iw=m+3:=by omega
  have k4:¬iw=m+3+1:=by omega
  have k5:iw<m+3:=by omega
  have k6:iw<m+3+1:=by omega
  have hfr:∀o1 o2,freeze ((h.push o1).push o2) (.sl iw 3 0 nb.owns.length)=some (eL false 3 eOwn nb.owns,((h.push o1).push o2).set iw .dead):=fun o1 o2=>fr_own (hv.push.push) rfl
  have hbb:DV.agg [.int .i64 nb.me,eL false 1 cInt nb.near,eL false 4 eAdvert nb.adverts,eL false 2 eID nb.seen,eL false 7 eEntry nb.entries,eL false 3 eOwn nb.owns]=eBroker .none nb:=rfl
  rw [run_loop_of t46l1.eq_1]
  simp only [List.foldl_cons]
  cases hq:meetsP p op with
  | false =>
   rw [hq]at hm
   have hst:subStep ⟨xc,xd⟩ p (nb,[]) ⟨⟨oc,od⟩,op,oq⟩=(nb,[]):=by simp [subStep,hq]
   rw [hst]
   simp [hL,hI,hW,hi,he,eAdvert,h2,hlim,wf,turn,e121,hm]
   rw [wrap64 (by omega) (by omega)]
   generalize hF:upd _ 67 _=F
   refine ih (i+1) F _ hd' (hz.less (by simp)) ?_ ?_ ?_ ?_ ?_ ?_ ?_ ?_ ?_ ?_ ?_ hv.push ?_ ?_ ?_
   all_goals first
    | (rw [←hF];simp [h2,h3,h4,h6,h9,hW,hL];done)
    | (simp [hmn,g1,g2,gB,hlim,wf];done)
    | (simp [hmn]<;>omega)
  | true =>
   rw [hq]at hm
   cases hu:(addB nb ⟨⟨oc,od⟩,⟨xc,xd⟩,p,-1,false⟩).2 with
   | false =>
    rw [hu]at hadd
    have hst:subStep ⟨xc,xd⟩ p (nb,[]) ⟨⟨oc,od⟩,op,oq⟩=((addB nb ⟨⟨oc,od⟩,⟨xc,xd⟩,p,-1,false⟩).1,[]):=by simp [subStep,hq,hu]
    rw [hst]
    simp [hL,hI,hW,hi,he,eAdvert,h2,h3,h4,hmn,g1,gB,hlim,wf,turn,e121,hm,e37,hfr,hbb,hadd,k0,k1,k2,k0',k1',k2',k3,k4,k5,k6]
    rw [wrap64 (by omega) (by omega)]
    generalize hF:upd _ 67 _=F
    refine l46 xc xd p hp t advs ho hl tx tb tn rest (i+1) _ [] [] .nsl F _ hd' hi1 hz1 RowR.nil (by have:=hz.ent;simp at this ⊢;omega) ?_ ?_ ?_ ?_ ?_ ?_ ?_ ?_ ?_ ?_ ?_ (.nil rfl rfl) ?_ ?_ ?_
    all_goals first
     | (rw [←hF];simp [h2,h3,h4,h6,h9,hW,hL];done)
     | (simp [hmn,g1,g2,gB,hlim,wf,k0,k1,k2,k0',k1',k2',k3,k4,k5,k6];done)
     | (simp [hmn]<;>omega)
   | true =>
    rw [hu]at hadd
    have hst:subStep ⟨xc,xd⟩ p (nb,[]) ⟨⟨oc,od⟩,op,oq⟩=((addB nb ⟨⟨oc,od⟩,⟨xc,xd⟩,p,-1,false⟩).1,[⟨oq,3,⟨oc,od⟩,⟨xc,xd⟩,p⟩]):=by simp [subStep,hq,hu]
    rw [hst]
    simp [hL,hI,hW,hi,he,eAdvert,h2,h3,h4,h9,hmn,g1,gB,hlim,wf,turn,e121,hm,e37,hfr,hbb,hadd,k0,k1,k2,k0',k1',k2',k3,k4,k5,k6,e122,s122]
    generalize hA:appendD _ _ _ _ _ _=A
    obtain ⟨v',K,rfl,p',x',_⟩:=OwnR.append (lo:=3) (OwnR.start 3 _ 86 8) (by simp [wf]) (by simp [hmn]<;>omega) (by simp [hlim]) hA (by simp) (by decide)
    clear hA
    have a1:=x'.get 1 (by decide)
    have a2:=x'.get 2 (by decide)
    have aB:=x'.get 0 (by decide)
    have al:=x'.lim
    simp [hmn,g1,g2,gB,hlim,wf,k0,k1,k2,k0',k1',k2',k3,k4,k5,k6]at a1 a2 aB al
    have hr':=RowR.one (to:=oq) (k:=3) (tc:=oc) (td:=od) (ic:=xc) (id:=xd) (pd:=ePred p) (ad:=.isl false 0 []) (.inl rfl) (.inr rfl)
    simp [hI]
    rw [wrap64 (by omega) (by omega)]
    generalize hF:upd _ 67 _=F
    refine l46 xc xd p hp t advs ho hl tx tb tn rest (i+1) _ _ _ v' F K hd' hi1 hz1 hr' (by have:=hz.ent;simp at this;simp;omega) ?_ ?_ ?_ ?_ ?_ ?_ ?_ ?_ a1 a2 aB (by simpa [rawO] using p') al x'.le x'.wf
    all_goals (rw [←hF];simp [h2,h3,h4,h6,h9,hW,hL])
end Go.Dm.Tc
/-
What the reference's functions compute,part 14: a client of the broker's subscribes,all of it.
-/
namespace Go.Dm.Tc
theorem o46 (S:List Fr) (h:Heap) (x0 x1 x2 x3 x4:DV) (t:Bool) (l:List OwnS) (c d:Int) (ta tb:Nat) (hl:l.length≤1000000)
  (g0:h.get 0=some (.arr tb 6 [.agg [x0,x1,x2,x3,x4,eL t 3 eOwn l]] (some 1))) (g1:h.get 1=some (.arr ta 2 [.agg [.int .i64 c,.int .i64 d]] (some 1))) :
  ∀(n i:Nat) (f:FEnv),lowIdx (fun b=>cmpID b.id ⟨c,d⟩) l-i=n→i≤lowIdx (fun b=>cmpID b.id ⟨c,d⟩) l→f 3=.ptr 0 6 0 0→f 4=.ptr 1 2 0 0→f 8=.int .i64 i →
  ∃ f',run D 99 (.block 0::.seq t46k1::S) (.loop t46l0) f h=run D 99 S t46k1 f' h∧f' 3=.ptr 0 6 0 0∧f' 4=.ptr 1 2 0 0∧f' 2=f 2∧f' 6=f 6∧f' 8=.int .i64 (lowIdx (fun b=>cmpID b.id ⟨c,d⟩) l):=by
 intro n
 induction n with
 | zero =>
  intro i f hn hi h2 h3 h6
  have hlo:lowIdx (fun b=>cmpID b.id ⟨c,d⟩) l=i:=by omega
  rw [run_loop_of t46l0.eq_1]
  by_cases hlt:i<l.length
  ·have hsx:=low_step (fun b:OwnS=>cmpID b.id ⟨c,d⟩) hi (List.getElem?_eq_getElem hlt)
   have hge:ltID ⟨l[i].id.client,l[i].id.seq⟩ ⟨c,d⟩=false:=by
    unfold ltID
    simp only [decide_eq_false_iff_not]
    intro hc
    have:=hsx.1 hc
    omega
   simp [h2,h3,h6,g0,g1,hlt,eOwn,e76,s76,hge]
   exact ⟨_,rfl,by simp [h2],by simp [h3],by simp,by simp,by simp [h6,hlo]⟩
  ·simp [h2,h3,h6,g0,g1,hlt]
   exact ⟨_,rfl,by simp [h2],by simp [h3],by simp,by simp,by simp [h6,hlo]⟩
 | succ n ih =>
  intro i f hn hi h2 h3 h6
  have hlt:i<l.length:=by have:=lowIdx_le (fun b:OwnS=>cmpID b.id ⟨c,d⟩) l;omega
  have hge:ltID ⟨l[i].id.client,l[i].id.seq⟩ ⟨c,d⟩=true:=low_lt (fun b:OwnS=>cmpID b.id ⟨c,d⟩) (by omega) (List.getElem?_eq_getElem hlt)
  rw [run_loop_of t46l0.eq_1]
  simp [h2,h3,h6,g0,g1,hlt,eOwn,e76,s76,hge]
  rw [wrap64 (by omega) (by omega)]
  generalize hF:upd _ 8 _=F
  obtain ⟨f',k1,k2,k3,k4,k5,k6⟩:=ih (i+1) F (by omega) (by omega) (by rw [←hF];simp [h2]) (by rw [←hF];simp [h3]) (by rw [←hF];simp)
  exact ⟨f',k1,k2,k3,by rw [k4,←hF];simp,by rw [k5,←hF];simp,k6⟩
theorem insAt_len {α:Type} (key:α→ID) (a:α) (l:List α):(insAt key a l).length=l.length+1:=by
 unfold insAt
 have:=lowIdx_le (fun b=>cmpID (key b) (key a)) l
 simp only [List.length_append,List.length_cons,List.length_take,List.length_drop]
 omega
theorem hit_own {l:List OwnS} (hr:Rising (l.map (·.id))) (x:ID):hitAt (fun o:OwnS=>cmpID o.id x) l=false→∀o∈l,o.id≠x:=by
 intro hh o ho
 have hf:=hit_find (fun a:OwnS=>a.id) hr x
 cases hq:l.find? (fun b=>decide (b.id=x)) with
 | none=>exact (find_key_none (fun a:OwnS=>a.id) x).1 hq o ho
 | some a=>rw [hq]at hf;rw [hf.1]at hh;cases hh
theorem InvK.subOwn {b:Broker} (h:InvK b) {x:ID} {p:Pred} (hp:PredOk p) (hn:∀o∈b.owns,o.id≠x):InvK (subOwn b x p):=by
 obtain ⟨h1,h2,h3,h4,h5,h6,h7,h8,h9,h10,h11,h12,h13⟩:=h
 refine ⟨h1,h2,h3,h4,ins_rising (fun o:OwnS=>o.id) ⟨x,p⟩ h5 hn,h6,h7,h8,h9,?_,h11,h12,h13⟩
 intro o ho
 unfold Tc.subOwn insAt at ho
 simp only at ho
 rcases List.mem_append.1 ho with h|h
 ·exact h10 o (List.mem_of_mem_take h)
 ·rcases List.mem_cons.1 h with rfl|h
  ·exact hp
  ·exact h10 o (List.mem_of_mem_drop h)
set_option maxRecDepth 8000 in
theorem s46 (b:Broker) (xc xd:Int) (p:Pred) (hi:InvK b) (hz:ZL b b.adverts.length) (hp:PredOk p) (ho:b.owns.length<100000) :
  pcF D t46 [eBroker .none b,.agg [.int .i64 xc,.int .i64 xd],ePred p]=some (.tup [eBroker .none (subscribeB b ⟨xc,xd⟩ p).1,eL false 8 eOut (subscribeB b ⟨xc,xd⟩ p).2]):=by
 unfold pcF
 rw [goRun_eq _ _ _ _ (by simp [t46])]
 obtain ⟨me,near,adv,seen,ent,own⟩:=b
 simp [t46]
 generalize hF:upd _ 8 _=F
 generalize hH:Heap.push _ _=H
 simp only at ho
 obtain ⟨f',k1,k2,k3,k4,k5,k6⟩:=o46 [] H (.int .i64 me) (eL false 1 cInt near) (eL false 4 eAdvert adv) (eL false 2 eID seen) (eL false 7 eEntry ent) false own xc xd _ _ (by omega) (by rw [←hH];simp [eBroker,Tags.none];rfl) (by rw [←hH];simp;rfl) _ 0 F rfl (Nat.zero_le _) (by rw [←hF];simp) (by rw [←hF];simp) (by rw [←hF];simp)
 rw [k1]
 have g0:H.get 0=some (.arr 29 6 [.agg [.int .i64 me,eL false 1 cInt near,eL false 4 eAdvert adv,eL false 2 eID seen,eL false 7 eEntry ent,eL false 3 eOwn own]] (some 1)):=by rw [←hH];simp [eBroker,Tags.none]
 have g1:H.get 1=some (.arr 37 2 [.agg [.int .i64 xc,.int .i64 xd]] (some 1)):=by rw [←hH];simp
 have g2:H.get 2=some (.arr 29 6 [.agg [.int .i64 0,.nsl,.nsl,.nsl,.nsl,.nsl]] (some 1)):=by rw [←hH];simp
 have hn3:H.n=3:=by rw [←hH];simp
 have hlim:H.lim=0:=by rw [←hH];simp
 have wf:WF H:=by rw [←hH];simp
 have q2:f' 2=ePred p:=by rw [k4,←hF];simp
 have q6:f' 6=.ptr 2 6 0 0:=by rw [k5,←hF];simp
 clear k1 hH hF k4 k5
 have hlow:=lowIdx_le (fun b:OwnS=>cmpID b.id ⟨xc,xd⟩) own
 cases hh:hitAt (fun o:OwnS=>cmpID o.id ⟨xc,xd⟩) own with
 | true =>
  have ha:subscribeB ⟨me,near,adv,seen,ent,own⟩ ⟨xc,xd⟩ p=(⟨me,near,adv,seen,ent,own⟩,[]):=by simp only [subscribeB,hh,if_true]
  rw [ha]
  unfold hitAt at hh
  split at hh
  ·rename_i o hox
   have hlt:=(List.getElem?_eq_some_iff.1 hox).1
   have hoe:=(List.getElem?_eq_some_iff.1 hox).2
   have hid:o.id=⟨xc,xd⟩:=by have:=of_decide_eq_true hh;exact cmpID_eq.1 this
   have c1:o.id.client=xc:=by rw [hid]
   have c2:o.id.seq=xd:=by rw [hid]
   simp [t46k1,k2,k3,k6,q6,g0,g1,g2,hlt,hoe,eOwn,c1,c2,hlim,hn3,wf,turn,resultsOf]
   exact ⟨rfl,rfl⟩
  ·cases hh
 | false =>
  have ha:subscribeB ⟨me,near,adv,seen,ent,own⟩ ⟨xc,xd⟩ p=adv.foldl (subStep ⟨xc,xd⟩ p) (subOwn ⟨me,near,adv,seen,ent,own⟩ ⟨xc,xd⟩ p,[]):=by simp only [subscribeB,hh];rfl
  rw [ha]
  have hno:=hit_own hi.ro ⟨xc,xd⟩ hh
  have hinv:=hi.subOwn hp hno
  have hkey:∀(hlt:lowIdx (fun b:OwnS=>cmpID b.id ⟨xc,xd⟩) own<own.length),¬(own[lowIdx (fun b:OwnS=>cmpID b.id ⟨xc,xd⟩) own].id.client=xc∧own[lowIdx (fun b:OwnS=>cmpID b.id ⟨xc,xd⟩) own].id.seq=xd):=fun hlt hc=>hno _ (List.getElem_mem hlt) (ID.ext'.2 hc)
  generalize hkk:lowIdx (fun b:OwnS=>cmpID b.id ⟨xc,xd⟩) own=k at *
  have hmin:min k own.length=k:=by omega
  have ofr:OwnI 3 (H.push (.arr 60 3 [] (some 0))) 3 60 3 []:=by have:=OwnI.fresh (lo:=3) (h:=H) (ety:=60) (sz:=3) (xs:=[]) (cap:=some 0) (by omega) (by omega);rw [hn3]at this;exact this
  by_cases hlt:k<own.length
  ·have hk0:=hkey hlt
   simp [t46k1,k2,k3,k6,q2,g0,g1,g2,hlt,hlow,eOwn,hk0,hlim,hn3,wf,turn]
   generalize hA:appendD _ _ _ _ _ _=A
   obtain ⟨i1,K1,rfl,o1,x1,y1,j1⟩:=ofr.append (n:=0) rfl wf.push (by simp;omega) (by simp [hlim]) hA (by simp;omega) (by decide)
   clear hA
   have a0:=x1.get 0 (by decide)
   have a1:=x1.get 1 (by decide)
   have a2:=x1.get 2 (by decide)
   have q1:=x1.lim
   have w1:=x1.wf
   have n1:=x1.le
   have u1:=o1.lo
   have m0:¬0=i1:=by omega
   have m1:¬i1=0:=by omega
   have m2:¬i1=1:=by omega
   have m3:¬1=i1:=by omega
   simp [g0,g1,g2,hn3,hlim]at a0 a1 a2 q1 o1
   simp [k2,k3,q2,g0,g1,a0,a1,a2,q1,w1,m0,m1,m2,m3,hlow,hn3]
   generalize hA:appendD _ _ _ _ _ _=A
   obtain ⟨i2,K2,rfl,o2,x2,y2,j2⟩:=(o1.push (o:=_)).append (by simp [hlow]) (by simp [w1]) (by simp;omega) (by simp [q1]) hA (by simp;omega) (by decide)
   clear hA
   have b0:=x2.get 0 (by decide)
   have b1:=x2.get 1 (by decide)
   have b2:=x2.get 2 (by decide)
   have p2:=x2.lim
   have w2:=x2.wf
   have n2:=x2.le
   have u2:=o2.lo
   have c0:¬0=K1.n:=by omega
   have c1:¬1=K1.n:=by omega
   have c2:¬2=K1.n:=by omega
   have m4:¬i2=0:=by omega
   have m5:¬i2=1:=by omega
   simp [a0,a1,a2,q1,c0,c1,c2]at b0 b1 b2 p2 o2
   simp [k2,k3,k6,g0,g1,a0,b0,b1,b2,p2,m0,m1,m2,m3,m4,m5,hlow,hn3]
   generalize hA:appendD _ _ _ _ _ _=A
   obtain ⟨i3,K3,rfl,o3,x3,y3,j3⟩:=o2.append (by simp [hlow]) w2 n2 (by omega) hA (by simp;omega) (by decide)
   clear hA
   have d0:=x3.get 0 (by decide)
   have d1:=x3.get 1 (by decide)
   have d2:=x3.get 2 (by decide)
   have p3:=x3.lim
   have w3:=x3.wf
   have n3:=x3.le
   have l3:0<K3.n:=by omega
   rw [b0]at d0
   rw [b1]at d1
   rw [b2]at d2
   rw [p2]at p3
   simp [k2,k3,g0,b0,d0,p3,w3,l3,turn,hmin]
   generalize hF2:upd _ 67 _=F2
   have hlen:(List.take k (List.map eOwn own)++[DV.agg [.int .i64 xc,.int .i64 xd,ePred p]]++List.drop k (List.map eOwn own))=(subOwn ⟨me,near,adv,seen,ent,own⟩ ⟨xc,xd⟩ p).owns.map eOwn:=by simp [subOwn,insAt,hkk,eOwn]
   rw [hlen]at o3
   have hln:(subOwn ⟨me,near,adv,seen,ent,own⟩ ⟨xc,xd⟩ p).owns.length=k+1+(own.length-k):=by simp [subOwn,insAt,hkk,hmin];omega
   have hz2:ZL (subOwn ⟨me,near,adv,seen,ent,own⟩ ⟨xc,xd⟩ p) adv.length:=⟨hz.near,hz.adv,hz.seen,by rw [hln];omega,hz.ent⟩
   refine n46 xc xd p hp false adv hi.pa hz.adv 37 29 29 _ hinv i3 adv 0 F2 _ rfl hz2 ?_ ?_ ?_ ?_ ?_ ?_ ?_ ?_ ?_ ?_ ?_ (o3.setLow w3 (by decide) l3) ?_ ?_ ?_
   all_goals first
    | (rw [←hF2];simp [q2,k2,k3,q6];done)
    | (simp [d1,d2,p3,w3,l3,zB];done)
    | (rw [hln];simp [w3,l3,subOwn];done)
    | (simp;omega)
  ·simp [t46k1,k2,k3,k6,q2,g0,g1,g2,hlt,hlow,eOwn,hlim,hn3,wf,turn]
   generalize hA:appendD _ _ _ _ _ _=A
   obtain ⟨i1,K1,rfl,o1,x1,y1,j1⟩:=ofr.append (n:=0) rfl wf.push (by simp;omega) (by simp [hlim]) hA (by simp;omega) (by decide)
   clear hA
   have a0:=x1.get 0 (by decide)
   have a1:=x1.get 1 (by decide)
   have a2:=x1.get 2 (by decide)
   have q1:=x1.lim
   have w1:=x1.wf
   have n1:=x1.le
   have u1:=o1.lo
   have m0:¬0=i1:=by omega
   have m1:¬i1=0:=by omega
   have m2:¬i1=1:=by omega
   have m3:¬1=i1:=by omega
   simp [g0,g1,g2,hn3,hlim]at a0 a1 a2 q1 o1
   simp [k2,k3,q2,g0,g1,a0,a1,a2,q1,w1,m0,m1,m2,m3,hlow,hn3]
   generalize hA:appendD _ _ _ _ _ _=A
   obtain ⟨i2,K2,rfl,o2,x2,y2,j2⟩:=(o1.push (o:=_)).append (by simp [hlow]) (by simp [w1]) (by simp;omega) (by simp [q1]) hA (by simp;omega) (by decide)
   clear hA
   have b0:=x2.get 0 (by decide)
   have b1:=x2.get 1 (by decide)
   have b2:=x2.get 2 (by decide)
   have p2:=x2.lim
   have w2:=x2.wf
   have n2:=x2.le
   have u2:=o2.lo
   have c0:¬0=K1.n:=by omega
   have c1:¬1=K1.n:=by omega
   have c2:¬2=K1.n:=by omega
   have m4:¬i2=0:=by omega
   have m5:¬i2=1:=by omega
   simp [a0,a1,a2,q1,c0,c1,c2]at b0 b1 b2 p2 o2
   simp [k2,k3,k6,g0,g1,a0,b0,b1,b2,p2,m0,m1,m2,m3,m4,m5,hlow,hn3]
   generalize hA:appendD _ _ _ _ _ _=A
   obtain ⟨i3,K3,rfl,o3,x3,y3,j3⟩:=o2.append (by simp [hlow]) w2 n2 (by omega) hA (by simp;omega) (by decide)
   clear hA
   have d0:=x3.get 0 (by decide)
   have d1:=x3.get 1 (by decide)
   have d2:=x3.get 2 (by decide)
   have p3:=x3.lim
   have w3:=x3.wf
   have n3:=x3.le
   have l3:0<K3.n:=by omega
   rw [b0]at d0
   rw [b1]at d1
   rw [b2]at d2
   rw [p2]at p3
   simp [k2,k3,g0,b0,d0,p3,w3,l3,turn,hmin]
   generalize hF2:upd _ 67 _=F2
   have hlen:(List.take k (List.map eOwn own)++[DV.agg [.int .i64 xc,.int .i64 xd,ePred p]]++List.drop k (List.map eOwn own))=(subOwn ⟨me,near,adv,seen,ent,own⟩ ⟨xc,xd⟩ p).owns.map eOwn:=by simp [subOwn,insAt,hkk,eOwn]
   rw [hlen]at o3
   have hln:(subOwn ⟨me,near,adv,seen,ent,own⟩ ⟨xc,xd⟩ p).owns.length=k+1+(own.length-k):=by simp [subOwn,insAt,hkk,hmin];omega
   have hz2:ZL (subOwn ⟨me,near,adv,seen,ent,own⟩ ⟨xc,xd⟩ p) adv.length:=⟨hz.near,hz.adv,hz.seen,by rw [hln];omega,hz.ent⟩
   refine n46 xc xd p hp false adv hi.pa hz.adv 37 29 29 _ hinv i3 adv 0 F2 _ rfl hz2 ?_ ?_ ?_ ?_ ?_ ?_ ?_ ?_ ?_ ?_ ?_ (o3.setLow w3 (by decide) l3) ?_ ?_ ?_
   all_goals first
    | (rw [←hF2];simp [q2,k2,k3,q6];done)
    | (simp [d1,d2,p3,w3,l3,zB];done)
    | (rw [hln];simp [w3,l3,subOwn];done)
    | (simp;omega)
end Go.Dm.Tc
/-
What the reference's functions compute,part 15: an entry dropped.
-/
namespace Go.Dm.Tc
end Go.Dm.Tc
/-
What the reference's functions compute,part 16: subscriptions by a link.
-/
namespace Go.Dm.Tc
def onSubB (b:Broker) (q:Int) (t s:ID) (p:Pred):Broker×List OutS :=
 ((addB b ⟨t,s,p,q,false⟩).1,if (addB b ⟨t,s,p,q,false⟩).2=true then [⟨parentOf b t,3,t,s,p⟩] else [])
end Go.Dm.Tc
/-
What the reference's functions compute,part 17: a client of the broker's ends a subscription.
-/
namespace Go.Dm.Tc
def endOwn (b:Broker) (x:ID):Broker:={b with owns:=without (fun o=>o.id) x b.owns}
theorem ZL.take {b:Broker} (h:ZL b 0) (hi:InvK b) (t s:ID) (q:Int):ZL (takeB b t s q).1 0:=by
 obtain ⟨h1,h2,h3,h4,h5⟩:=h
 rcases take_cases hi t s q with ⟨e,_⟩|⟨e,_,_,_,_,ht⟩|⟨e,hm,_,_,_,r',u',ht,hr,_⟩
 ·rw [e];exact ⟨h1,h2,h3,h4,h5⟩
 ·rw [ht]
  have:=List.length_filter_le (fun x=>!isE t s x) b.entries
  exact ⟨h1,h2,h3,h4,by simp only;omega⟩
 ·rw [ht]
  have:=List.length_filter_le (fun x=>!isE t s x) b.entries
  have h6:=hr.len
  exact ⟨h1,h2,h3,h4,by simp only;omega⟩
end Go.Dm.Tc
/-
What the reference's functions compute,part 18: a client of the broker's ends a subscription,all of it.
-/
namespace Go.Dm.Tc
end Go.Dm.Tc
/-
What the reference's functions compute,part 19: the end of a subscription,with the row still written.
-/
namespace Go.Dm.Tc
end Go.Dm.Tc
/-
What the reference's functions compute,part 20: the end of a subscription,all of it.
-/
namespace Go.Dm.Tc
theorem InvK.endOwn {b:Broker} (h:InvK b) (x:ID):InvK (endOwn b x):=by
 obtain ⟨h1,h2,h3,h4,h5,h6,h7,h8,h9,h10,h11,h12,h13⟩:=h
 refine ⟨h1,h2,h3,h4,without_rising (fun o:OwnS=>o.id) x h5,h6,h7,h8,h9,?_,h11,h12,h13⟩
 intro o ho
 exact h10 o ((List.mem_filter.1 ho).1)
theorem ZL.endOwn {b:Broker} (h:ZL b 0) (x:ID):ZL (endOwn b x) 0 :=
 ⟨h.near,h.adv,h.seen,Nat.le_trans (List.length_filter_le ..) h.own,h.ent⟩
end Go.Dm.Tc
/-
What the reference's functions compute,part 21: a message comes by a link;a broker's side.
-/
namespace Go.Dm.Tc
end Go.Dm.Tc
/-
What every broker keeps that is told anything: plain laws.
-/
namespace Go.Dm.Tc
structure Rest (a b:Broker) (k:Nat):Prop where
 me:b.me=a.me
 near:b.near=a.near
 adv:b.adverts=a.adverts
 seen:b.seen=a.seen
 own:b.owns=a.owns
 ent:b.entries.length≤a.entries.length+k
theorem Rest.refl (a:Broker) (k:Nat):Rest a a k:=⟨rfl,rfl,rfl,rfl,rfl,by omega⟩
theorem Rest.trans {a b c:Broker} {j k:Nat} (h1:Rest a b j) (h2:Rest b c k):Rest a c (j+k) :=
 ⟨h2.me.trans h1.me,h2.near.trans h1.near,h2.adv.trans h1.adv,h2.seen.trans h1.seen,h2.own.trans h1.own,by have:=h1.ent;have:=h2.ent;omega⟩
theorem Rest.mono {a b:Broker} {j k:Nat} (h:Rest a b j) (hk:j≤k):Rest a b k:=⟨h.me,h.near,h.adv,h.seen,h.own,by have:=h.ent;omega⟩
theorem addB_rest (b:Broker) (e:Entry):Rest b (addB b e).1 1:=by
 obtain ⟨h1,h2,h3,h4,h5,h6⟩:=addB_rows b e
 exact ⟨h5,h1,h2,h3,h4,h6⟩
theorem adv_keep (frm:Int) (x:ID) (p:Pred):∀(l:List OwnS) (st:Broker×List OutS),InvK st.1→(∀o∈l,PredOk o.pred)→InvK (l.foldl (advStep frm x p) st).1∧Rest st.1 (l.foldl (advStep frm x p) st).1 l.length
 | [],st,h,_=>⟨h,.refl _ _⟩
 | o::r,st,h,hp=>by
  have h1:InvK (advStep frm x p st o).1∧Rest st.1 (advStep frm x p st o).1 1:=by
   unfold advStep
   split
   ·exact ⟨h.add (by simp [linkB]) (hp o (List.mem_cons_self ..)),addB_rest ..⟩
   ·exact ⟨h,.refl _ _⟩
  have h2:=adv_keep frm x p r (advStep frm x p st o) h1.1 fun o ho=>hp o (List.mem_cons_of_mem _ ho)
  exact ⟨h2.1,(h1.2.trans h2.2).mono (by simp only [List.length_cons];omega)⟩
theorem sub_keep (x:ID) (p:Pred) (hp:PredOk p):∀(l:List Advert) (st:Broker×List OutS),InvK st.1→InvK (l.foldl (subStep x p) st).1∧Rest st.1 (l.foldl (subStep x p) st).1 l.length
 | [],st,h=>⟨h,.refl _ _⟩
 | o::r,st,h=>by
  have h1:InvK (subStep x p st o).1∧Rest st.1 (subStep x p st o).1 1:=by
   unfold subStep
   split
   ·exact ⟨h.add (by simp [linkB]) hp,addB_rest ..⟩
   ·exact ⟨h,.refl _ _⟩
  have h2:=sub_keep x p hp r (subStep x p st o) h1.1
  exact ⟨h2.1,(h1.2.trans h2.2).mono (by simp only [List.length_cons];omega)⟩
end Go.Dm.Tc
/-
What every broker keeps that is told anything,call by call.
-/
namespace Go.Dm.Tc
theorem sq_succ (n:Nat):(n+1)*(n+1)=n*n+n+n+1:=by rw [Nat.add_mul,Nat.mul_add];omega
theorem Rest.sz {a b:Broker} {k n:Nat} (h:Rest a b k) (z:SzK a n) (hk:k≤n+n+1):SzK b (n+1):=by
 obtain ⟨h1,h2,h3,h4,h5,h6⟩:=h
 obtain ⟨z1,z2,z3,z4,z5⟩:=z
 have:=sq_succ n
 exact ⟨by rw [h2];exact z1,by rw [h3];omega,by rw [h4];omega,by rw [h5];omega,by omega⟩
theorem advertise_keep {b:Broker} {n:Nat} (h:InvK b) (z:SzK b n) {frm:Int} {x:ID} {p:Pred} (hf:linkB b frm=true) (hp:PredOk p):InvK (advertiseB b frm x p).1∧SzK (advertiseB b frm x p).1 (n+1):=by
 unfold advertiseB
 split
 ·rename_i hq
  have hi:=h.learn (a:=⟨x,p,frm⟩) hf hp
  have hk:=adv_keep frm x p b.owns ((learnB b ⟨x,p,frm⟩).1,toAll b.near frm 1 x.client x.seq 0 0 p) hi h.po
  refine ⟨hk.1,?_⟩
  obtain ⟨h1,h2,h3,h4,h5,h6⟩:=hk.2
  have z':=z.learn ⟨x,p,frm⟩
  have he:(learnB b ⟨x,p,frm⟩).1.entries=b.entries:=by unfold learnB;split<;>rfl
  have hn:(learnB b ⟨x,p,frm⟩).1.near=b.near:=by unfold learnB;split<;>rfl
  have ho:(learnB b ⟨x,p,frm⟩).1.owns=b.owns:=by unfold learnB;split<;>rfl
  obtain ⟨z1,z2,z3,z4,z5⟩:=z
  have:=sq_succ n
  simp only at h2 h3 h4 h5 h6
  rw [he]at h6
  exact ⟨by rw [h2,hn];exact z1,by rw [h3];exact z'.adv,by rw [h4];exact z'.seen,by rw [h5,ho];omega,by omega⟩
 ·exact ⟨h,z.mono (by omega)⟩
theorem subscribe_keep {b:Broker} {n:Nat} (h:InvK b) (z:SzK b n) {x:ID} {p:Pred} (hp:PredOk p):InvK (subscribeB b x p).1∧SzK (subscribeB b x p).1 (n+1):=by
 unfold subscribeB
 split
 ·exact ⟨h,z.mono (by omega)⟩
 ·rename_i hh
  have hi:=h.subOwn hp (hit_own h.ro x (by simpa using hh))
  have hk:=sub_keep x p hp b.adverts (subOwn b x p,[]) hi
  refine ⟨hk.1,?_⟩
  obtain ⟨h1,h2,h3,h4,h5,h6⟩:=hk.2
  have hl:(subOwn b x p).owns.length=b.owns.length+1:=insAt_len ..
  obtain ⟨z1,z2,z3,z4,z5⟩:=z
  have:=sq_succ n
  simp only at h2 h3 h4 h5 h6
  exact ⟨by rw [h2];exact z1,by rw [h3];exact Nat.le_succ_of_le z2,by rw [h4];exact Nat.le_succ_of_le z3,by rw [h5,hl];omega,by have:(subOwn b x p).entries=b.entries:=rfl;rw [this]at h6;omega⟩
end Go.Dm.Tc
/-
The broker that numbers make: what it is.
-/
namespace Go.Dm.Tc
end Go.Dm.Tc
/-
The broker that numbers make: the walk.
-/
namespace Go.Dm.Tc
end Go.Dm.Tc
/-
The broker that numbers make: its neighbours,and the first that it is told.
-/
namespace Go.Dm.Tc
end Go.Dm.Tc
/-
The broker that numbers make: how far its numbers go.
-/
namespace Go.Dm.Tc
structure LowK (b:Broker):Prop where
 near:∀x∈b.near,1≤x∧x≤4
 ne:0<b.near.length
 seen:∀x∈b.seen,x.client≤4
 own:∀o∈b.owns,o.id.client≤4
 ent:∀e∈b.entries,e.sub.client≤4
theorem LowK.learn {b:Broker} (h:LowK b) {a:Advert} (ha:a.id.client≤4):LowK (learnB b a).1:=by
 unfold learnB
 split
 ·exact h
 ·refine ⟨h.near,h.ne,fun x hx=>?_,h.own,h.ent⟩
  have hx:=(ins_mem (fun x:ID=>x) a.id b.seen x).1 hx
  rcases hx with rfl|hx
  ·exact ha
  ·exact h.seen x hx
theorem LowK.add {b:Broker} (h:LowK b) {e:Entry} (he:e.sub.client≤4):LowK (addB b e).1:=by
 unfold addB
 split
 ·refine ⟨h.near,h.ne,h.seen,h.own,fun x hx=>?_⟩
  rcases insE_mem.1 hx with rfl|hx
  ·exact he
  ·exact h.ent x hx
 ·exact h
theorem LowK.take {b:Broker} (h:LowK b) (hi:InvK b) (t s:ID) (q:Int):LowK (takeB b t s q).1:=by
 rcases take_cases hi t s q with ⟨e,_⟩|⟨e,_,_,_,_,ht⟩|⟨e,_,_,_,_,r',u',ht,hr,_⟩
 ·rw [e];exact h
 ·rw [ht]
  exact ⟨h.near,h.ne,h.seen,h.own,fun x hx=>h.ent x (List.mem_filter.1 hx).1⟩
 ·rw [ht]
  refine ⟨h.near,h.ne,h.seen,h.own,fun x hx=>?_⟩
  rcases hr.mem hx with hx|⟨y,hy,_,_,rfl⟩
  ·exact h.ent x (List.mem_filter.1 hx).1
  ·exact h.ent y (List.mem_filter.1 hy).1
end Go.Dm.Tc
/-
What functions of the statements' books compute: two rows of messages,where they are the same.
-/
namespace Go.Dm.Tc
end Go.Dm.Tc
/-
What functions of the statements' books compute: all but one.
-/
namespace Go.Dm.Tc
end Go.Dm.Tc
/-
What the program's routes compute,part 1: where a subscription of its own stands;an entry added,passed on.
-/
namespace Go.Dm.Tc
end Go.Dm.Tc
/-
What the program's routes compute,part 2: an entry taken out;subscriptions by a link.
-/
namespace Go.Dm.Tc
end Go.Dm.Tc
/-
What the program's routes compute,part 3: a client of the broker's subscribes.
-/
namespace Go.Dm.Tc
theorem on_len (b:Broker) (q:Int) (t s:ID) (p:Pred):(onSubB b q t s p).2.length≤1:=by
 unfold onSubB
 simp only
 split<;>simp
end Go.Dm.Tc
/-
What the program's routes compute,part 4: a client of the broker's subscribes,with the row still written.
-/
namespace Go.Dm.Tc
end Go.Dm.Tc
/-
What the program's routes compute,part 5: a client of the broker's ends a subscription.
-/
namespace Go.Dm.Tc
end Go.Dm.Tc
/-
What the program's routes compute,part 6: a client of the broker's ends a subscription,all of it.
-/
namespace Go.Dm.Tc
end Go.Dm.Tc
/-
Two predicates meet either way about: plain laws.
-/
namespace Go.Dm.Tc
theorem PredOk.up {p:Pred} (h:PredOk p):NameUp p:=by
 have h1:=h.right
 unfold rightP at h1
 rw [Bool.and_eq_true]at h1
 unfold NameUp
 rw [List.pairwise_map]
 exact (rightA_names h1.1).2
end Go.Dm.Tc
/-
SubsFrom: plain laws.
-/
namespace Go.Dm.Tc
theorem add_is {b:Broker} (h:InvK b) {e:Entry} {a:Advert} (ha:advOf b e.tree=some a) (hn:entOf b e.tree e.sub=none) (hf:e.frm=a.parent→a.parent=-1) (hl:linkB b e.frm=true) (hp:PredOk e.pred) :
  entOf (addB b e).1 e.tree e.sub=some {e with up:=upOf b e}∧(addB b e).2=upOf b e∧(addB b e).1.entries.length=b.entries.length+1∧(upOf b e=true→a.parent≠-1):=by
 have hi:=h.add hl hp
 have hy:=add_yes ha hn hf
 refine ⟨?_,by rw [hy],by rw [hy];exact insE_len ..,?_⟩
 ·rw [entOf_some hi.re,hy]
  exact ⟨insE_mem.2 (.inl rfl),rfl,rfl⟩
 ·unfold upOf
  rw [parentOf_eq,ha]
  simp
  intro q _;exact q
theorem fresh {b:Broker} (h:LowK b) (t s:ID) (hs:4<s.client):entOf b t s=none:=by
 rw [entOf_none]
 rintro e he ⟨_,hq⟩
 have:=h.ent e he
 rw [hq]at this;omega
end Go.Dm.Tc
/-
FloodEnd,FloodBack: plain laws: taken back,and spread,what is behind.
-/
namespace Go.Dm.Tc
theorem advOf_mem {b:Broker} {x:ID} {a:Advert} (h:advOf b x=some a):a∈b.adverts∧a.id=x:=by
 refine ⟨List.mem_of_find?_eq_some h,?_⟩
 have:=List.find?_some h
 simpa using this
theorem forget_is {b:Broker} {x:ID} {q:Int} {a:Advert} (ha:advOf b x=some a) (hq:a.parent=q):forgetB b x q=({b with adverts:=without (fun a=>a.id) x b.adverts,entries:=without (fun e=>e.tree) x b.entries},true):=by
 unfold forgetB
 rw [show b.adverts.find? (fun a=>decide (a.id=x))=some a from ha]
 simp only [if_pos hq]
theorem unadv_is {b:Broker} {x:ID} {q:Int} {a:Advert} (ha:advOf b x=some a) (hq:a.parent=q):unadvertiseB b q x=({b with adverts:=without (fun a=>a.id) x b.adverts,entries:=without (fun e=>e.tree) x b.entries},toAll b.near q 2 x.client x.seq 0 0 []):=by
 unfold unadvertiseB
 rw [forget_is ha hq];rfl
theorem without_append {α:Type} (key:α→ID) (x:ID) (l k:List α):without key x (l++k)=without key x l++without key x k:=by
 unfold without;exact List.filter_append ..
theorem without_insE {x:ID} {e:Entry} (he:e.tree=x) (l:List Entry):without (fun e=>e.tree) x (insE e l)=without (fun e=>e.tree) x l:=by
 unfold insE
 rw [without_append]
 have:without (fun e:Entry=>e.tree) x (e::l.drop (lowIdx (sgnE e.tree e.sub) l))=without (fun e:Entry=>e.tree) x (l.drop (lowIdx (sgnE e.tree e.sub) l)):=by
  unfold without
  rw [List.filter_cons];simp [he]
 rw [this,←without_append,List.take_append_drop]
theorem without_insAt {x:ID} {a:Advert} (he:a.id=x) (l:List Advert):without (fun a:Advert=>a.id) x (insAt (fun a=>a.id) a l)=without (fun a:Advert=>a.id) x l:=by
 unfold insAt
 generalize lowIdx _ l=k
 rw [without_append]
 have:without (fun a:Advert=>a.id) x (a::l.drop k)=without (fun a:Advert=>a.id) x (l.drop k):=by
  unfold without
  rw [List.filter_cons];simp [he]
 rw [this,←without_append,List.take_append_drop]
theorem without_none {α:Type} {key:α→ID} {x:ID} {l:List α} (h:∀a∈l,key a≠x):without key x l=l:=by
 unfold without
 rw [List.filter_eq_self]
 intro a ha
 simp [h a ha]
theorem without_addB (b:Broker) {e:Entry} {x:ID} (he:e.tree=x):without (fun e:Entry=>e.tree) x (addB b e).1.entries=without (fun e:Entry=>e.tree) x b.entries:=by
 unfold addB
 split
 ·exact without_insE (e:={e with up:=upOf b e}) he b.entries
 ·rfl
theorem adv_outs (frm:Int) (x:ID) (p:Pred):∀(l:List OwnS) (st:Broker×List OutS),∃ l',(l.foldl (advStep frm x p) st).2=st.2++l'∧l'.length≤l.length∧(∀o∈l',o.to=frm∧o.kind=3∧o.tree=x) ∧
  (l.foldl (advStep frm x p) st).1.adverts=st.1.adverts∧(l.foldl (advStep frm x p) st).1.near=st.1.near∧(l.foldl (advStep frm x p) st).1.owns=st.1.owns∧(l.foldl (advStep frm x p) st).1.me=st.1.me ∧
  without (fun e:Entry=>e.tree) x (l.foldl (advStep frm x p) st).1.entries=without (fun e:Entry=>e.tree) x st.1.entries
 | [],st=>⟨[],by simp,by simp,fun _ h=>(by cases h),rfl,rfl,rfl,rfl,rfl⟩
 | o::r,st=>by
  obtain ⟨l',h1,h2,h3,h4,h5,h6,h7,h8⟩:=adv_outs frm x p r (advStep frm x p st o)
  have hs:∃ m,(advStep frm x p st o).2=st.2++m∧m.length≤1∧(∀o∈m,o.to=frm∧o.kind=3∧o.tree=x)∧(advStep frm x p st o).1.adverts=st.1.adverts∧(advStep frm x p st o).1.near=st.1.near∧(advStep frm x p st o).1.owns=st.1.owns∧(advStep frm x p st o).1.me=st.1.me ∧
    without (fun e:Entry=>e.tree) x (advStep frm x p st o).1.entries=without (fun e:Entry=>e.tree) x st.1.entries:=by
   unfold advStep
   split
   ·obtain ⟨k1,k2,k3,k4,k5,_⟩:=addB_rows st.1 ⟨x,o.id,o.pred,-1,false⟩
    by_cases hu:(addB st.1 ⟨x,o.id,o.pred,-1,false⟩).2=true
    ·exact ⟨[⟨frm,3,x,o.id,o.pred⟩],by simp [hu],by simp,by simp,k2,k1,k4,k5,without_addB _ rfl⟩
    ·exact ⟨[],by simp [hu],by simp,fun _ h=>(by cases h),k2,k1,k4,k5,without_addB _ rfl⟩
   ·exact ⟨[],by simp,by simp,fun _ h=>(by cases h),rfl,rfl,rfl,rfl,rfl⟩
  obtain ⟨m,g1,g2,g3,g4,g5,g6,g7,g8⟩:=hs
  refine ⟨m++l',by rw [List.foldl_cons,h1,g1,List.append_assoc],by simp;omega,fun o ho=>?_,by rw [List.foldl_cons,h4,g4],by rw [List.foldl_cons,h5,g5],by rw [List.foldl_cons,h6,g6],by rw [List.foldl_cons,h7,g7],by rw [List.foldl_cons,h8,g8]⟩
  rcases List.mem_append.1 ho with ho|ho
  ·exact g3 o ho
  ·exact h3 o ho
theorem back {b:Broker} (h:InvK b) {f:Int} {x:ID} {p:Pred} (hf:linkB b f=true) (hx:x ∉ b.seen) (hp:PredOk p) :
  ∃ l',(advertiseB b f x p).2=toAll b.near f 1 x.client x.seq 0 0 p++l'∧l'.length≤b.owns.length∧(∀o∈l',o.to=f∧o.kind=3∧o.tree=x) ∧
   (unadvertiseB (advertiseB b f x p).1 f x).2=toAll b.near f 2 x.client x.seq 0 0 []∧{(unadvertiseB (advertiseB b f x p).1 f x).1 with seen:=b.seen}=b:=by
 have hA:=advOf_learn h ⟨x,p,f⟩ hx x
 have hL:learnB b ⟨x,p,f⟩=({b with adverts:=insAt (fun a=>a.id) ⟨x,p,f⟩ b.adverts,seen:=insAt (fun x=>x) x b.seen},true):=by
  unfold learnB;rw [if_neg hx]
 have hadv:∀a∈b.adverts,a.id≠x:=fun a ha e=>hx (by rw [←e];exact h.sub a ha)
 have hent:∀e∈b.entries,e.tree≠x:=by
  intro e he q
  obtain ⟨a,ha,_⟩:=rightEnt_iff.1 (h.ent e he)
  have:=advOf_mem ha
  exact hadv a this.1 (by rw [this.2,q])
 obtain ⟨l',h1,h2,h3,h4,h5,h6,h7,h8⟩:=adv_outs f x p b.owns ((learnB b ⟨x,p,f⟩).1,toAll b.near f 1 x.client x.seq 0 0 p)
 have hE:advertiseB b f x p=b.owns.foldl (advStep f x p) ((learnB b ⟨x,p,f⟩).1,toAll b.near f 1 x.client x.seq 0 0 p):=by
  unfold advertiseB;rw [if_pos (by rw [hL])]
 have hc:advOf (advertiseB b f x p).1 x=some ⟨x,p,f⟩:=by
  rw [if_pos rfl]at hA
  rw [hE]
  unfold advOf at hA ⊢
  rw [h4];exact hA
 refine ⟨l',by rw [hE,h1],h2,h3,?_,?_⟩
 ·rw [unadv_is hc rfl,hE,h5,hL]
 ·rw [unadv_is hc rfl,hE]
  simp only
  rw [h4,h5,h6,h7,h8,hL]
  simp only
  rw [without_insAt (a:=⟨x,p,f⟩) rfl,without_none hadv,without_none hent]
end Go.Dm.Tc
/-
FloodEnd: an advertisement that is taken back: the law's walk.
-/
namespace Go.Dm.Tc
theorem s45:pcF D t45 []=some (.bool true):=pc_run (n:=2000) (args:=[]) e45 rfl (by kernel_rfl)
theorem SzK.zl {b:Broker} {n k:Nat} (hz:SzK b n) (hn:n≤20) (hk:k≤n):ZL b k :=
 ⟨by have:=hz.near;omega,by have:=hz.adv;omega,by have:=hz.seen;omega,by have:=hz.own;omega,by have:=hz.ent;have:=Nat.mul_le_mul hn hn;omega⟩
end Go.Dm.Tc
/-
FloodTells: an advertisement from anywhere,spread or taken back by the program and by the document: the law's walk.
-/
namespace Go.Dm.Tc
def OutsOk (os:List OutS):Prop:=(∀o∈os,o.pred.length≤1000000)∧os.length≤1000000
theorem toAll_ok (near:List Int) (but k tc td ic id:Int) {p:Pred} (hp:PredOk p) (hn:near.length≤1000):(∀o∈toAll near but k tc td ic id p,o.pred.length≤1000000)∧(toAll near but k tc td ic id p).length≤1000:=by
 unfold toAll
 refine ⟨fun o ho=>?_,?_⟩
 ·obtain ⟨n,_,rfl⟩:=List.mem_map.1 ho
  exact Nat.le_trans hp.len (by decide)
 ·rw [List.length_map]
  exact Nat.le_trans (List.length_filter_le ..) hn
theorem adv_preds (frm:Int) (x:ID) (p:Pred):∀(l:List OwnS) (st:Broker×List OutS),(∀o∈st.2,o.pred.length≤1000000)→(∀o∈l,PredOk o.pred)→∀o∈(l.foldl (advStep frm x p) st).2,o.pred.length≤1000000
 | [],_,h,_=>h
 | o::r,st,h,hp=>by
  refine adv_preds frm x p r (advStep frm x p st o) ?_ fun o ho=>hp o (List.mem_cons_of_mem _ ho)
  have ho:=Nat.le_trans (hp o (List.mem_cons_self ..)).len (show 5≤1000000 by decide)
  unfold advStep
  split
  ·simp only
   split
   ·intro y hy
    rcases List.mem_append.1 hy with hy|hy
    ·exact h y hy
    ·rw [List.mem_singleton.1 hy];exact ho
   ·exact h
  ·exact h
theorem advertise_ok {b:Broker} {n:Nat} (h:InvK b) (z:SzK b n) (hn:n≤300) (f:Int) (x:ID) {p:Pred} (hp:PredOk p):OutsOk (advertiseB b f x p).2:=by
 unfold advertiseB
 split
 ·obtain ⟨k1,k2⟩:=toAll_ok b.near f 1 x.client x.seq 0 0 hp z.near
  refine ⟨adv_preds _ _ _ _ _ k1 h.po,?_⟩
  obtain ⟨l',h1,h2,_⟩:=adv_outs f x p b.owns ((learnB b ⟨x,p,f⟩).1,toAll b.near f 1 x.client x.seq 0 0 p)
  rw [h1,List.length_append]
  have:=z.own
  simp only
  omega
 ·exact ⟨fun o ho=>(by cases ho),by simp⟩
end Go.Dm.Tc
/-
FloodBack: an advertisement spread and taken back: the law's walk.
-/
namespace Go.Dm.Tc
end Go.Dm.Tc
/-
RouteTells: a subscription,its own or a link's,put in or taken out by the program and by the document: the law's walk.
-/
namespace Go.Dm.Tc
end Go.Dm.Tc
/-
RouteBack: plain laws: subscribed,and ended at once.
-/
namespace Go.Dm.Tc
theorem hit_no_own {l:List OwnS} (hr:Rising (l.map (·.id))) {x:ID} (h:∀o∈l,o.id≠x):hitAt (fun o:OwnS=>cmpID o.id x) l=false:=by
 have hf:=hit_find (fun a:OwnS=>a.id) hr x
 rw [(find_key_none (fun a:OwnS=>a.id) x).2 h]at hf
 exact hf
def upIn (b:Broker) (t x:ID):Bool:=match entOf b t x with|some e=>e.up|none=>false
structure Subd (b nb:Broker) (x:ID) (q:Pred) (done:List Advert) (outs:List OutS):Prop where
 inv:InvK nb
 adv:nb.adverts=b.adverts
 near:nb.near=b.near
 seen:nb.seen=b.seen
 me:nb.me=b.me
 own:nb.owns=(subOwn b x q).owns
 keep:nb.entries.filter (fun e=>!decide (e.sub=x))=b.entries
 has:∀a∈done,meetsP q a.pred=true→∃ u,entOf nb a.id x=some ⟨a.id,x,q,-1,u⟩
 from':∀e∈nb.entries,e.sub=x→∃ a∈done,a.id=e.tree∧meetsP q a.pred=true
 len:nb.entries.length=b.entries.length+done.countP fun a=>meetsP q a.pred
 cnt:outs.length=done.countP fun a=>upIn nb a.id x
structure Ended (c nb:Broker) (x:ID) (done:List Advert) (outs:List OutS):Prop where
 inv:InvK nb
 adv:nb.adverts=c.adverts
 near:nb.near=c.near
 seen:nb.seen=c.seen
 me:nb.me=c.me
 own:nb.owns=(endOwn c x).owns
 ent:nb.entries=c.entries.filter fun e=>!(decide (e.sub=x) && done.any fun a=>decide (a.id=e.tree))
 cnt:outs.length=done.countP fun a=>upIn c a.id x
 kind:∀o∈outs,o.kind=4∧o.id=x
end Go.Dm.Tc
/-
RouteBack: subscribed,and ended at once: the law's walk.
-/
namespace Go.Dm.Tc
structure Last (b c d e:Broker) (out back none again:List OutS) (n met:Nat):Prop where
 h1:out.length=n
 h2:back.length=n
 h3:c.entries.length=b.entries.length+met
 h4:d=b
 h5:none=[]
 h6:again=[]
 h7:e=c
end Go.Dm.Tc
/-
FloodLate: plain laws: an advertisement that comes late is met by those that were there.
-/
namespace Go.Dm.Tc
def tLate:ID:=⟨20,0⟩
def xLate (i:Nat):ID:=⟨((i % 4:Nat):Int),(i:Int)⟩
def bLate:Broker:=⟨0,[1,2],[],[],[],[]⟩
theorem count_insAt {key:OwnS→ID} (f:OwnS→Bool) (a:OwnS) (l:List OwnS):(insAt key a l).countP f=l.countP f+if f a=true then 1 else 0:=by
 unfold insAt
 generalize lowIdx _ l=k
 rw [List.countP_append,List.countP_cons]
 have:=congrArg (List.countP f) (List.take_append_drop k l)
 rw [List.countP_append]at this
 omega
theorem count_insE (f:Entry→Bool) (e:Entry) (l:List Entry):(insE e l).countP f=l.countP f+if f e=true then 1 else 0:=by
 unfold insE
 generalize lowIdx _ l=k
 rw [List.countP_append,List.countP_cons]
 have:=congrArg (List.countP f) (List.take_append_drop k l)
 rw [List.countP_append]at this
 omega
structure LateI (fr:Int) (a:Pred) (b c:Broker) (n i:Nat):Prop where
 ib:InvK b
 zb:SzK b i
 ic:InvK c
 zc:SzK c (i+1)
 badv:b.adverts=[]
 bseen:b.seen=[]
 bnear:b.near=[1,2]
 bent:b.entries=[]
 cadv:c.adverts=[⟨tLate,a,fr⟩]
 own:c.owns=b.owns
 low:∀o∈b.owns,o.id.seq<i
 cnt:n=b.owns.countP fun o=>meetsP o.pred a
 len:c.entries.length=n
 has:∀o∈b.owns,meetsP o.pred a=true→∃ u,entOf c tLate o.id=some ⟨tLate,o.id,o.pred,-1,u⟩
 from':∀e∈c.entries,e.tree=tLate∧∃ o∈b.owns,o.id=e.sub
theorem LateI.start {fr:Int} {a:Pred} (hf:fr=1∨fr=-1) (ha:PredOk a):LateI fr a bLate (advertiseB bLate fr tLate a).1 0 0:=by
 have hi:InvK bLate:=.start rfl (by decide)
 have hz:SzK bLate 0:=.start (by decide)
 have hl:linkB bLate fr=true:=by rcases hf with rfl|rfl<;>rfl
 obtain ⟨h1,h2⟩:=advertise_keep (x:=tLate) hi hz hl ha
 exact ⟨hi,hz,h1,h2,rfl,rfl,rfl,rfl,rfl,rfl,fun o ho=>(by cases ho),rfl,rfl,fun o ho=>(by cases ho),fun o ho=>(by cases ho)⟩
theorem LateI.step {fr:Int} {a:Pred} {b c:Broker} {n i:Nat} (h:LateI fr a b c n i) {p:Pred} (hp:PredOk p) :
  LateI fr a (subscribeB b (xLate i) p).1 (subscribeB c (xLate i) p).1 (if meetsP p a=true then n+1 else n) (i+1):=by
 have hno:∀o∈b.owns,o.id≠xLate i:=fun o ho e=>by
  have:=h.low o ho
  rw [e]at this
  simp [xLate]at this
 have hno':∀o∈c.owns,o.id≠xLate i:=by rw [h.own];exact hno
 have hb:subscribeB b (xLate i) p=(subOwn b (xLate i) p,[]):=by
  unfold subscribeB
  rw [hit_no_own h.ib.ro hno,h.badv];rfl
 have hc:subscribeB c (xLate i) p=subStep (xLate i) p (subOwn c (xLate i) p,[]) ⟨tLate,a,fr⟩:=by
  unfold subscribeB
  rw [hit_no_own h.ic.ro hno',h.cadv];rfl
 obtain ⟨k1,k2⟩:=subscribe_keep (x:=xLate i) h.ib h.zb hp
 obtain ⟨k3,k4⟩:=subscribe_keep (x:=xLate i) h.ic h.zc hp
 have hown:(subOwn c (xLate i) p).owns=(subOwn b (xLate i) p).owns:=by unfold subOwn;rw [h.own]
 have hmem:∀o,o∈(subOwn b (xLate i) p).owns↔o=⟨xLate i,p⟩∨o∈b.owns:=fun o=>ins_mem (fun o:OwnS=>o.id) ⟨xLate i,p⟩ b.owns o
 have hcnt:(subOwn b (xLate i) p).owns.countP (fun o=>meetsP o.pred a)=n+if meetsP p a=true then 1 else 0:=by rw [h.cnt];exact count_insAt ..
 have hlow:∀o∈(subOwn b (xLate i) p).owns,o.id.seq<((i+1:Nat):Int):=by
  intro o ho
  rcases (hmem o).1 ho with rfl|ho
  ·simp [xLate];omega
  ·have:=h.low o ho;omega
 have hnone:entOf c tLate (xLate i)=none:=by
  rw [entOf_none]
  rintro e he ⟨_,h2⟩
  obtain ⟨_,o,ho,h3⟩:=h.from' e he
  exact hno o ho (h3.trans h2)
 rw [hb]at k1 k2 ⊢
 by_cases hm:meetsP p a=true
 ·rw [if_pos hm]
  rw [if_pos hm]at hcnt
  have hca:(subscribeB c (xLate i) p).1=(addB (subOwn c (xLate i) p) ⟨tLate,xLate i,p,-1,false⟩).1:=by
   rw [hc];unfold subStep;rw [if_pos hm]
  have hio:InvK (subOwn c (xLate i) p):=h.ic.subOwn hp hno'
  have hadv:advOf (subOwn c (xLate i) p) tLate=some ⟨tLate,a,fr⟩:=by
   unfold advOf
   show c.adverts.find? _=_
   rw [h.cadv];rfl
  obtain ⟨c1,c2,c3,_⟩:=add_is (e:=⟨tLate,xLate i,p,-1,false⟩) hio hadv hnone (fun e=>e.symm) (by simp [linkB]) hp
  have hy:=add_yes (e:=⟨tLate,xLate i,p,-1,false⟩) hadv hnone (fun e=>e.symm)
  obtain ⟨r1,r2,r3,r4,r5,_⟩:=addB_rows (subOwn c (xLate i) p) ⟨tLate,xLate i,p,-1,false⟩
  rw [←hca]at c1 c3 r1 r2 r3 r4 r5
  have hent:(subscribeB c (xLate i) p).1.entries=insE ⟨tLate,xLate i,p,-1,upOf (subOwn c (xLate i) p) ⟨tLate,xLate i,p,-1,false⟩⟩ c.entries:=by rw [hca,hy];rfl
  have hes:(subOwn c (xLate i) p).entries=c.entries:=rfl
  refine ⟨k1,k2,k3,k4,h.badv,h.bseen,h.bnear,h.bent,r2.trans h.cadv,r4.trans hown,hlow,hcnt.symm,by rw [c3,hes,h.len],?_,?_⟩
  ·intro o ho hom
   rcases (hmem o).1 ho with rfl|ho
   ·exact ⟨_,c1⟩
   ·obtain ⟨u,hu⟩:=h.has o ho hom
    refine ⟨u,?_⟩
    have:=(entOf_some h.ic.re).1 hu
    rw [entOf_some k3.re,hent]
    exact ⟨insE_mem.2 (.inr this.1),rfl,rfl⟩
  ·intro e he
   rw [hent]at he
   rcases insE_mem.1 he with rfl|he
   ·exact ⟨rfl,⟨xLate i,p⟩,(hmem _).2 (.inl rfl),rfl⟩
   ·obtain ⟨h1,o,ho,h2⟩:=h.from' e he
    exact ⟨h1,o,(hmem _).2 (.inr ho),h2⟩
 ·rw [if_neg hm]
  rw [if_neg hm,Nat.add_zero]at hcnt
  have hca:(subscribeB c (xLate i) p).1=subOwn c (xLate i) p:=by
   rw [hc];unfold subStep;rw [if_neg hm]
  rw [hca]at k3 k4 ⊢
  refine ⟨k1,k2,k3,k4,h.badv,h.bseen,h.bnear,h.bent,h.cadv,hown,hlow,hcnt.symm,h.len,?_,?_⟩
  ·intro o ho hom
   rcases (hmem o).1 ho with rfl|ho
   ·exact absurd hom hm
   ·exact h.has o ho hom
  ·intro e he
   obtain ⟨h1,o,ho,h2⟩:=h.from' e he
   exact ⟨h1,o,(hmem _).2 (.inr ho),h2⟩
structure LatePass (fr:Int) (a:Pred) (nb:Broker) (K:Nat) (done:List OwnS) (outs:List OutS):Prop where
 inv:InvK nb
 adv:nb.adverts=[⟨tLate,a,fr⟩]
 len:nb.entries.length=done.countP fun o=>meetsP o.pred a
 from':∀e∈nb.entries,e.tree=tLate∧e.frm=-1∧∃ o∈done,o.id=e.sub∧o.pred=e.pred∧meetsP o.pred a=true
 outs:outs.length=K+nb.entries.countP fun e=>e.up
theorem late_pass {fr:Int} {a:Pred} {K:Nat} {owns:List OwnS} (hr:Rising (owns.map (·.id))) (hp:∀o∈owns,PredOk o.pred):∀(r done:List OwnS) (st:Broker×List OutS),done++r=owns→LatePass fr a st.1 K done st.2 →
  LatePass fr a (r.foldl (advStep fr tLate a) st).1 K owns (r.foldl (advStep fr tLate a) st).2
 | [],done,st,h,s=>by
  rw [List.append_nil]at h
  rw [←h];exact s
 | o::r,done,st,h,s=>by
  refine late_pass hr hp r (done++[o]) (advStep fr tLate a st o) (by rw [←h];simp) ?_
  have hop:PredOk o.pred:=hp o (by rw [←h];simp)
  have hne:∀d∈done,d.id≠o.id:=by
   intro d hd e
   rw [←h]at hr
   unfold Rising at hr
   rw [List.map_append,List.map_cons,List.pairwise_append]at hr
   have:=hr.2.2 d.id (List.mem_map_of_mem hd) o.id (List.mem_cons_self ..)
   rw [e,cmpID_lt]at this;omega
  unfold advStep
  by_cases hm:meetsP o.pred a=true
  ·rw [if_pos hm]
   have hadv:advOf st.1 tLate=some ⟨tLate,a,fr⟩:=by unfold advOf;rw [s.adv];rfl
   have hnone:entOf st.1 tLate o.id=none:=by
    rw [entOf_none]
    rintro e he ⟨_,h2⟩
    obtain ⟨_,_,d,hd,h3,_⟩:=s.from' e he
    exact hne d hd (h3.trans h2)
   obtain ⟨c1,c2,c3,_⟩:=add_is (e:=⟨tLate,o.id,o.pred,-1,false⟩) s.inv hadv hnone (fun e=>e.symm) (by simp [linkB]) hop
   have hy:=add_yes (e:=⟨tLate,o.id,o.pred,-1,false⟩) hadv hnone (fun e=>e.symm)
   have hi:=s.inv.add (e:=⟨tLate,o.id,o.pred,-1,false⟩) (by simp [linkB]) hop
   obtain ⟨r1,r2,r3,r4,r5,_⟩:=addB_rows st.1 ⟨tLate,o.id,o.pred,-1,false⟩
   have hent:(addB st.1 ⟨tLate,o.id,o.pred,-1,false⟩).1.entries=insE ⟨tLate,o.id,o.pred,-1,upOf st.1 ⟨tLate,o.id,o.pred,-1,false⟩⟩ st.1.entries:=by rw [hy]
   refine ⟨hi,r2.trans s.adv,?_,?_,?_⟩
   ·rw [c3,s.len,List.countP_append]
    simp [List.countP_cons,hm]
   ·intro e he
    rw [hent]at he
    rcases insE_mem.1 he with rfl|he
    ·exact ⟨rfl,rfl,o,by simp,rfl,rfl,hm⟩
    ·obtain ⟨h1,h2,d,hd,h3⟩:=s.from' e he
     exact ⟨h1,h2,d,by simp [hd],h3⟩
   ·rw [hent,count_insE,c2]
    simp only
    have:=s.outs
    cases hu:upOf st.1 ⟨tLate,o.id,o.pred,-1,false⟩
    ·simp;exact this
    ·simp;omega
  ·rw [if_neg hm]
   refine ⟨s.inv,s.adv,?_,?_,s.outs⟩
   ·rw [s.len,List.countP_append]
    simp [List.countP_cons,hm]
   ·intro e he
    obtain ⟨h1,h2,d,hd,h3⟩:=s.from' e he
    exact ⟨h1,h2,d,by simp [hd],h3⟩
theorem LateI.late {fr:Int} {a:Pred} {b c:Broker} {n i:Nat} (h:LateI fr a b c n i) (hf:fr=1∨fr=-1) (ha:PredOk a) :
  LatePass fr a (advertiseB b fr tLate a).1 (toAll b.near fr 1 20 0 0 0 a).length b.owns (advertiseB b fr tLate a).2:=by
 have hx:tLate ∉ b.seen:=by rw [h.bseen];exact fun h=>(by cases h)
 have hl:linkB b fr=true:=by unfold linkB;rw [h.bnear];rcases hf with rfl|rfl<;>rfl
 have hL:learnB b ⟨tLate,a,fr⟩=({b with adverts:=insAt (fun a=>a.id) ⟨tLate,a,fr⟩ b.adverts,seen:=insAt (fun x=>x) tLate b.seen},true):=by unfold learnB;rw [if_neg hx]
 have hE:advertiseB b fr tLate a=b.owns.foldl (advStep fr tLate a) ((learnB b ⟨tLate,a,fr⟩).1,toAll b.near fr 1 20 0 0 0 a):=by
  unfold advertiseB;rw [if_pos (by rw [hL])];rfl
 rw [hE]
 refine late_pass h.ib.ro h.ib.po b.owns [] _ rfl ⟨h.ib.learn hl ha,?_,?_,?_,?_⟩
 ·rw [hL,h.badv];rfl
 ·rw [hL]
  show b.entries.length=_
  rw [h.bent];rfl
 ·rw [hL]
  intro e he
  have he:e∈b.entries:=he
  rw [h.bent]at he;cases he
 ·rw [hL]
  show _=_+b.entries.countP _
  rw [h.bent];rfl
end Go.Dm.Tc
/-
FloodLate: an advertisement that comes late is met by those that were there: the law's walk.
-/
namespace Go.Dm.Tc
theorem s15_012:pcF D t15 [.int .i64 0,.isl true 1 [.int .i64 1,.int .i64 2]]=some (eBroker .none bLate):=pc_run (n:=2000) (args:=[.int .i64 0,.isl true 1 [.int .i64 1,.int .i64 2]]) e15 rfl (by kernel_rfl)
set_option maxRecDepth 16000 in
set_option maxHeartbeats 4000000 in
theorem k8 {b c d:Broker} {outs:List OutS} {fr:Int} {n ups:Nat} {loc:Bool} (hbn:b.near.length≤1000) (hic:InvK c) (zc:Sized c) (hid:InvK d) (zd:Sized d) (hc:(ofT tLate c.entries).length=n) (hd:(ofT tLate d.entries).length=n) (ho:outs.length=(toAll b.near fr 1 20 0 0 0 []).length+ups) (hu:loc=true→ups=0) (hup:ups≤1000000) (f:FEnv) (h:Heap)
  (h2:f 2=.bool loc) (h7:f 7=.int .i64 fr) (h8:f 8=.ptr 1 2 0 0) (h9:f 9=.ptr 3 6 0 0) (h10:f 10=.ptr 4 6 0 0) (h12:f 12=.int .i64 n) (X:Nat) (hX1:5≤X) (hX2:X<h.n) (h15:f 15=.ptr X 6 0 0) (h16:f 16=eL false 8 eOut outs) (h17:f 17=.int .i64 ups)
  (g1:h.get 1=some (.arr 37 2 [.agg [.int .i64 20,.int .i64 0]] (some 1))) (g3:h.get 3=some (.arr 29 6 [eBroker .none b] (some 1))) (g4:h.get 4=some (.arr 29 6 [eBroker .none c] (some 1))) (gX:h.get X=some (.arr 29 6 [eBroker .none d] (some 1))) (hlim:h.lim=0) (wf:WF h) :
  pcOut (fin [.t 6] (run D 174 [] t8k0 f h))=some (.bool true):=by
 have hR:=s45
 have hOc:=kOf .none zc 20 0
 have hOd:=kOf .none zd 20 0
 have hT:=kTight .none hid zd
 have hc':(ofT ⟨20,0⟩ c.entries).length=n:=hc
 have hd':(ofT ⟨20,0⟩ d.entries).length=n:=hd
 simp only [t8k0]
 simp [h7,h9,g3,hlim,wf,turn]
 generalize hA:fc D _ _ _=A
 obtain ⟨v1,K,rfl,o1,x1⟩:=q49 hA (by omega) wf (by omega)
 clear hA
 have a1:=(x1.get 1 (by omega)).trans g1
 have a4:=(x1.get 4 (by omega)).trans g4
 have aX:=(x1.get X hX2).trans gX
 have al:=x1.lim.trans hlim
 have aw:=x1.wf
 have hlv:=o1.lenV
 have hrl:(rawAll b.near fr 0 0 0 0 0 .nsl .nsl).length=(toAll b.near fr 1 20 0 0 0 []).length:=by simp [rawAll,toAll]
 rw [hrl]at hlv
 have hkl:(toAll b.near fr 1 20 0 0 0 []).length≤1000:=by unfold toAll;rw [List.length_map];exact Nat.le_trans (List.length_filter_le ..) hbn
 generalize (toAll b.near fr 1 20 0 0 0 []).length=L at *
 have hw:IntKind.i64.wrap ((L:Int)+ups)=L+ups:=wrap64 (by omega) (by omega)
 have hX0:¬X=1:=by omega
 cases loc with
 | false =>
  simp [hlv,h2,h8,h10,h12,h15,h16,h17,a1,a4,aX,al,aw,turn,e40,hOc,hOd,hc',hd',ho,hw,e41,hT,e45,hR]
 | true =>
  have hu0:=hu rfl
  subst hu0
  simp at hw
  simp [hlv,h2,h8,h10,h12,h15,h16,h17,a1,a4,aX,al,aw,turn,e40,hOc,hOd,hc',hd',ho,hw,e41,hT,e45,hR]
set_option maxRecDepth 16000 in
set_option maxHeartbeats 4000000 in
theorem l8b {b c d:Broker} {outs:List OutS} {fr:Int} {n U:Nat} {loc:Bool} (hbn:b.near.length≤1000) (hic:InvK c) (zc:Sized c) (hid:InvK d) (zd:Sized d) (hc:(ofT tLate c.entries).length=n) (hd:(ofT tLate d.entries).length=n) (ho:outs.length=(toAll b.near fr 1 20 0 0 0 []).length+U) (hu:loc=true→U=0) (hup:U≤1000000)
  (hin:∀e∈d.entries,e.frm=-1∧∃ u,entOf c tLate e.sub=some ⟨tLate,e.sub,e.pred,-1,u⟩) (X:Nat) (hX1:5≤X) :
  ∀(rest:List Entry) (i ups:Nat) (f:FEnv) (h:Heap),(ofT tLate d.entries).drop i=rest→(ups+rest.countP fun e=>e.up)=U→ups≤i→f 2=.bool loc→f 7=.int .i64 fr→f 8=.ptr 1 2 0 0→f 9=.ptr 3 6 0 0→f 10=.ptr 4 6 0 0→f 12=.int .i64 n→f 15=.ptr X 6 0 0→f 16=eL false 8 eOut outs→f 17=.int .i64 ups→f 93=eL false 7 eEntry (ofT tLate d.entries)→f 94=.int .i64 (ofT tLate d.entries).length→f 95=.int .i64 i →
  h.get 1=some (.arr 37 2 [.agg [.int .i64 20,.int .i64 0]] (some 1))→h.get 3=some (.arr 29 6 [eBroker .none b] (some 1))→h.get 4=some (.arr 29 6 [eBroker .none c] (some 1))→h.get X=some (.arr 29 6 [eBroker .none d] (some 1))→h.lim=0→X<h.n→WF h →
  pcOut (fin [.t 6] (run D 174 [.block 2,.seq t8k0] (.loop t8l1) f h))=some (.bool true):=by
 have hel:(ofT tLate d.entries).length≤100000:=Nat.le_trans (List.length_filter_le ..) zd.ent
 intro rest
 induction rest with
 | nil =>
  intro i ups f h hdr hU hui h2 h7 h8 h9 h10 h12 h15 h16 h17 h93 h94 h95 g1 g3 g4 gX hlim hX2 wf
  have hil:=drop_nil hdr
  have hlt:¬(i<(ofT tLate d.entries).length):=by omega
  have e1:ups=U:=by simpa using hU
  subst e1
  rw [run_loop_of t8l1.eq_1]
  simp [h94,h95,hlt]
  refine k8 hbn hic zc hid zd hc hd ho hu hup _ _ ?_ ?_ ?_ ?_ ?_ ?_ X hX1 hX2 ?_ ?_ ?_ g1 g3 g4 gX hlim wf
  all_goals simp [h2,h7,h8,h9,h10,h12,h15,h16,h17]
 | cons e rest ih =>
  intro i ups f h hdr hU hui h2 h7 h8 h9 h10 h12 h15 h16 h17 h93 h94 h95 g1 g3 g4 gX hlim hX2 wf
  obtain ⟨hlt,he,hdr'⟩:=drop_at hdr
  have hmem:e∈d.entries:=(List.mem_filter.1 (show e∈ofT tLate d.entries by rw [←he];exact List.getElem_mem hlt)).1
  obtain ⟨hf1,u,hen⟩:=hin e hmem
  have hpe:=hid.pe e hmem
  have hsp:pcF D t48 [ePred e.pred,ePred e.pred]=some (.bool true):=by
   have:=s48 false false e.pred e.pred (Nat.le_trans hpe.len (by decide))
   rw [decide_eq_true rfl]at this
   exact this
  have hE:=kEF .none hic zc 20 0 e.sub.client e.sub.seq
  rw [show entOf c ⟨20,0⟩ ⟨e.sub.client,e.sub.seq⟩=some ⟨tLate,e.sub,e.pred,-1,u⟩ from hen]at hE
  obtain ⟨m,hmn⟩:∃ m,h.n=m+6:=⟨h.n-6,by omega⟩
  have kX:¬X=m+6:=by omega
  have kX':¬X=m+6+1:=by omega
  have hw2:IntKind.i64.wrap ((i:Int)+1)=(i:Int)+1:=wrap64 (by omega) (by omega)
  have hw1:IntKind.i64.wrap ((ups:Int)+1)=(ups:Int)+1:=wrap64 (by omega) (by omega)
  rw [List.countP_cons]at hU
  obtain ⟨et,⟨sc,sd⟩,ep,ef,eu⟩:=e
  simp only at hf1 hE hsp hU
  subst hf1
  rw [run_loop_of t8l1.eq_1]
  cases eu with
  | false =>
   simp only [Bool.false_eq_true,if_false,Nat.add_zero]at hU
   simp [h93,h94,h95,h8,h10,hlt,he,eEntry,g1,g4,hmn,hlim,wf,turn,e32,hE,hasO,e48,hsp,hw2,t8s1]
   generalize hF:upd _ 95 _=F
   refine ih (i+1) ups F _ hdr' hU (by omega) ?_ ?_ ?_ ?_ ?_ ?_ ?_ ?_ ?_ ?_ ?_ ?_ ?_ ?_ ?_ ?_ ?_ ?_ ?_
   all_goals first
    | (rw [←hF];simp [h2,h7,h8,h9,h10,h12,h15,h16,h17,h93,h94];done)
    | (simp [hmn,kX,kX',g1,g3,g4,gX,hlim,wf];done)
    | (simp<;>omega)
  | true =>
   simp only [if_true]at hU
   simp [h93,h94,h95,h8,h10,h17,hlt,he,eEntry,g1,g4,hmn,hlim,wf,turn,e32,hE,hasO,e48,hsp,hw1,hw2,t8s1]
   generalize hF:upd _ 95 _=F
   refine ih (i+1) (ups+1) F _ hdr' (by omega) (by omega) ?_ ?_ ?_ ?_ ?_ ?_ ?_ ?_ ?_ ?_ ?_ ?_ ?_ ?_ ?_ ?_ ?_ ?_ ?_
   all_goals first
    | (rw [←hF];simp [h2,h7,h8,h9,h10,h12,h15,h16,h17,h93,h94];done)
    | (simp [hmn,kX,kX',g1,g3,g4,gX,hlim,wf];done)
    | (simp<;>omega)
set_option maxRecDepth 16000 in
set_option maxHeartbeats 4000000 in
theorem m8 {b c:Broker} {fr:Int} {n i:Nat} {loc:Bool} {q:Pred} (L:LateI fr q b c n i) (hi8:i≤8) (hq:PredOk q) (hfr:(loc=true∧fr=-1)∨(loc=false∧fr=1)) (has vals:List Int) (hP:pcF D t18 [.agg [eL false 1 cInt has,eL false 1 cInt vals]]=some (ePred q)) (f:FEnv) (h:Heap)
  (h2:f 2=.bool loc) (h4:f 4=.ptr 0 2 0 0) (h7:f 7=.int .i64 fr) (h8:f 8=.ptr 1 2 0 0) (h9:f 9=.ptr 3 6 0 0) (h10:f 10=.ptr 4 6 0 0) (h12:f 12=.int .i64 n)
  (g0:h.get 0=some (.arr 32 2 [.agg [eL false 1 cInt has,eL false 1 cInt vals]] (some 1))) (g1:h.get 1=some (.arr 37 2 [.agg [.int .i64 20,.int .i64 0]] (some 1))) (g3:h.get 3=some (.arr 29 6 [eBroker .none b] (some 1))) (g4:h.get 4=some (.arr 29 6 [eBroker .none c] (some 1))) (hlim:h.lim=0) (hn:5≤h.n) (wf:WF h) :
  pcOut (fin [.t 6] (run D 174 [] t8k1 f h))=some (.bool true):=by
 have hf:fr=1∨fr=-1:=by rcases hfr with ⟨_,e⟩|⟨_,e⟩<;>simp [e]
 have P:=L.late hf hq
 have hl:linkB b fr=true:=by unfold linkB;rw [L.bnear];rcases hf with rfl|rfl<;>rfl
 have hz:=L.zb.mono hi8
 have hzc:=L.zc.mono (show i+1≤9 by omega)
 obtain ⟨hid,hzd⟩:=advertise_keep (x:=tLate) L.ib hz hl hq
 have hV:=s42 b 20 0 fr q L.ib (hz.zl (by decide) hz.own) hq hl ⟨by have:=hz.adv;omega,by have:=hz.seen;omega⟩
 rw [show (⟨20,0⟩:ID)=tLate from rfl]at hV
 obtain ⟨o1,o2⟩:=advertise_ok L.ib hz (by decide) fr tLate hq
 generalize (advertiseB b fr tLate q).1=d at *
 generalize (advertiseB b fr tLate q).2=outs at *
 have zd:=hzd.sized (by decide)
 have zc:=hzc.sized (by decide)
 have hofd:ofT tLate d.entries=d.entries:=by
  unfold ofT
  rw [List.filter_eq_self]
  intro e he
  simp [(P.from' e he).1]
 have hofc:ofT tLate c.entries=c.entries:=by
  unfold ofT
  rw [List.filter_eq_self]
  intro e he
  simp [(L.from' e he).1]
 have hin:∀e∈d.entries,e.frm=-1∧∃ u,entOf c tLate e.sub=some ⟨tLate,e.sub,e.pred,-1,u⟩:=by
  intro e he
  obtain ⟨_,e2,o,ho,e3,e4,e5⟩:=P.from' e he
  obtain ⟨u,hu⟩:=L.has o ho e5
  rw [e3,e4]at hu
  exact ⟨e2,u,hu⟩
 have hloc:loc=true→d.entries.countP (fun e=>e.up)=0:=by
  intro hl
  have hfr1:fr=-1:=by rcases hfr with ⟨_,e⟩|⟨e,_⟩;exact e;rw [hl]at e;cases e
  rw [List.countP_eq_zero]
  intro e he hu
  have:=hid.up he (by simpa using hu)
  apply this
  rw [parentOf_eq,(P.from' e he).1]
  unfold advOf
  rw [P.adv]
  exact hfr1
 have hOd:=kOf .none zd 20 0
 obtain ⟨m,hmn⟩:∃ m,h.n=m+5:=⟨h.n-5,by omega⟩
 simp only [t8k1]
 simp [h4,h7,h8,h9,g0,g1,g3,hmn,hlim,wf,turn,e18,hP,e42,hV,e40,hOd]
 have hto:(toAll b.near fr 1 20 0 0 0 []).length=(toAll b.near fr 1 20 0 0 0 q).length:=by simp [toAll]
 refine l8b (b:=b) (c:=c) (d:=d) (outs:=outs) (fr:=fr) (n:=n) (U:=d.entries.countP fun e=>e.up) (loc:=loc) L.zb.near L.ic zc hid zd (by rw [hofc];exact L.len) (by rw [hofd,P.len,L.cnt]) (by rw [hto];exact P.outs) hloc (Nat.le_trans (List.countP_le_length ..) (Nat.le_trans zd.ent (by decide))) hin (m+5) (by omega) (ofT tLate d.entries) 0 0 _ _ rfl (by rw [hofd];omega) (by omega) ?_ ?_ ?_ ?_ ?_ ?_ ?_ ?_ ?_ ?_ ?_ ?_ ?_ ?_ ?_ ?_ ?_ ?_ ?_
 all_goals first
  | (simp [h2,h7,h8,h9,h10,h12];done)
  | (simp [hmn,g1,g3,g4,hlim,wf];done)
  | (simp [hmn]<;>omega)
  | rfl
end Go.Dm.Tc
/-
FloodLate: the law's walk,its first loop and the whole.
-/
namespace Go.Dm.Tc
set_option maxRecDepth 16000 in
set_option maxHeartbeats 4000000 in
theorem l8a {fr:Int} {loc:Bool} {q:Pred} (hq:PredOk q) (hfr:(loc=true∧fr=-1)∨(loc=false∧fr=1)) (has vals:List Int) (hP:pcF D t18 [.agg [eL false 1 cInt has,eL false 1 cInt vals]]=some (ePred q)) (l:List PK) (hl:∀z∈l,z.has.length≤9223372036854775807) :
  ∀(rest:List PK) (i n:Nat) (b c:Broker) (f:FEnv) (h:Heap),l.drop i=rest→LateI fr q b c n i→i≤8→f 0=eL false 2 ePK l→f 2=.bool loc→f 4=.ptr 0 2 0 0→f 7=.int .i64 fr→f 8=.ptr 1 2 0 0→f 9=.ptr 3 6 0 0→f 10=.ptr 4 6 0 0→f 12=.int .i64 n→f 13=.int .i64 i →
  h.get 0=some (.arr 32 2 [.agg [eL false 1 cInt has,eL false 1 cInt vals]] (some 1))→h.get 1=some (.arr 37 2 [.agg [.int .i64 20,.int .i64 0]] (some 1))→h.get 3=some (.arr 29 6 [eBroker .none b] (some 1))→h.get 4=some (.arr 29 6 [eBroker .none c] (some 1))→h.lim=0→5≤h.n→WF h →
  pcOut (fin [.t 6] (run D 174 [.block 0,.seq t8k1] (.loop t8l0) f h))=some (.bool true):=by
 intro rest
 induction rest with
 | nil =>
  intro i n b c f h hd L hi8 h0 h2 h4 h7 h8 h9 h10 h12 h13 g0 g1 g3 g4 hlim hn wf
  have hil:=drop_nil hd
  have hlt:¬(i<l.length):=by omega
  rw [run_loop_of t8l0.eq_1]
  simp [h0,h13,hlt]
  refine m8 L hi8 hq hfr has vals hP _ _ ?_ ?_ ?_ ?_ ?_ ?_ ?_ g0 g1 g3 g4 hlim hn wf
  all_goals simp [h2,h4,h7,h8,h9,h10,h12]
 | cons p rest ih =>
  intro i n b c f h hd L hi8 h0 h2 h4 h7 h8 h9 h10 h12 h13 g0 g1 g3 g4 hlim hn wf
  obtain ⟨hlt,he,hd'⟩:=drop_at hd
  rw [run_loop_of t8l0.eq_1]
  by_cases hi:i<8
  ·have hii:(i:Int)<8:=by omega
   obtain ⟨m,hmn⟩:∃ m,h.n=m+5:=⟨h.n-5,by omega⟩
   have hPp:=s18 false false p.has p.vals (hl p (by rw [←he];exact List.getElem_mem hlt))
   have hpq:=mkPred_ok p.has p.vals
   generalize mkPred p.has p.vals=pp at *
   have hz:=L.zb.mono hi8
   have hzc:=L.zc.mono (show i+1≤9 by omega)
   have hS:=s46 b ((i % 4:Nat):Int) i pp L.ib (hz.zl (by decide) hz.adv) hpq (by have:=hz.own;omega)
   have hT:=s46 c ((i % 4:Nat):Int) i pp L.ic (hzc.zl (by decide) hzc.adv) hpq (by have:=hzc.own;omega)
   have hM:=s47 pp q hpq hq
   have L':=L.step hpq
   rw [show (⟨((i % 4:Nat):Int),(i:Int)⟩:ID)=xLate i from rfl]at hS hT
   have hrem:arithD .rem (.int .i64 (i:Int)) (.int .i64 4)=some (.int .i64 ((i % 4:Nat):Int)):=by
    have:i=0∨i=1∨i=2∨i=3∨i=4∨i=5∨i=6∨i=7:=by omega
    rcases this with rfl|rfl|rfl|rfl|rfl|rfl|rfl|rfl<;>rfl
   have hw:IntKind.i64.wrap ((i:Int)+1)=(i:Int)+1:=wrap64 (by omega) (by omega)
   have hcn:n≤i:=by rw [L.cnt];exact Nat.le_trans (List.countP_le_length ..) L.zb.own
   have hwn:IntKind.i64.wrap ((n:Int)+1)=(n:Int)+1:=wrap64 (by omega) (by omega)
   generalize hxx:((i % 4:Nat):Int)=xc at *
   cases hmq:meetsP pp q with
   | false =>
    rw [hmq]at hM L'
    simp only [Bool.false_eq_true,if_false]at L'
    simp [h0,h4,h9,h10,h12,h13,hlt,hi,hii,he,ePK,g0,g3,g4,hmn,hlim,wf,turn,hrem,e18,hPp,hP,e46,hS,hT,e47,hM,t8s0,hw]
    generalize hF:upd _ 13 _=F
    refine ih (i+1) _ _ _ F _ hd' L' (by omega) ?_ ?_ ?_ ?_ ?_ ?_ ?_ ?_ ?_ ?_ ?_ ?_ ?_ ?_ ?_ ?_
    all_goals first
     | (rw [←hF];simp [h0,h2,h4,h7,h8,h9,h10,h12];done)
     | (simp [hmn,g0,g1,g3,g4,hlim,wf];done)
     | (simp [hmn]<;>omega)
   | true =>
    rw [hmq]at hM L'
    simp only [if_true]at L'
    simp [h0,h4,h9,h10,h12,h13,hlt,hi,hii,he,ePK,g0,g3,g4,hmn,hlim,wf,turn,hrem,e18,hPp,hP,e46,hS,hT,e47,hM,t8s0,hw,hwn]
    generalize hF:upd _ 13 _=F
    refine ih (i+1) _ _ _ F _ hd' L' (by omega) ?_ ?_ ?_ ?_ ?_ ?_ ?_ ?_ ?_ ?_ ?_ ?_ ?_ ?_ ?_ ?_
    all_goals first
     | (rw [←hF];simp [h0,h2,h4,h7,h8,h9,h10,h12];done)
     | (simp [hmn,g0,g1,g3,g4,hlim,wf];done)
     | (simp [hmn]<;>omega)
  ·have hi':i=8:=by omega
   subst hi'
   have hlti:(8:Int)<l.length:=by omega
   simp [h0,h13,hlt,hlti]
   refine m8 L hi8 hq hfr has vals hP _ _ ?_ ?_ ?_ ?_ ?_ ?_ ?_ g0 g1 g3 g4 hlim hn wf
   all_goals simp [h2,h4,h7,h8,h9,h10,h12]
set_option maxRecDepth 16000 in
set_option maxHeartbeats 4000000 in
theorem s8 (l:List PK) (p:PK) (loc:Bool) (hl:∀z∈l,z.has.length≤9223372036854775807) (hp:p.has.length≤9223372036854775807) :
  pcF D t8 [eL false 2 ePK l,ePK p,.bool loc]=some (.bool true):=by
 have hP:=s18 false false p.has p.vals hp
 have hq:=mkPred_ok p.has p.vals
 generalize mkPred p.has p.vals=q at *
 have hN:=s15_012
 have hi:InvK bLate:=.start rfl (by decide)
 have hz:SzK bLate 0:=.start (by decide)
 unfold pcF
 rw [goRun_eq _ _ _ _ (by simp [t8])]
 cases loc with
 | false =>
  have hV:=s42 bLate 20 0 1 q hi (hz.zl (by decide) (by decide)) hq rfl ⟨by decide,by decide⟩
  have L:=LateI.start (fr:=1) (.inl rfl) hq
  rw [show (⟨20,0⟩:ID)=tLate from rfl]at hV
  generalize (advertiseB bLate 1 tLate q).1=c at *
  generalize (advertiseB bLate 1 tLate q).2=os at *
  simp [t8,ePK,List.replicate,mkIsl,e15,hN,e18,hP,e42,hV,turn]
  refine l8a (fr:=1) (loc:=false) hq (.inr ⟨rfl,rfl⟩) p.has p.vals hP l hl l 0 0 bLate c _ _ rfl L (by decide) ?_ ?_ ?_ ?_ ?_ ?_ ?_ ?_ ?_ ?_ ?_ ?_ ?_ ?_ ?_ ?_
  all_goals simp
 | true =>
  have hV:=s42 bLate 20 0 (-1) q hi (hz.zl (by decide) (by decide)) hq rfl ⟨by decide,by decide⟩
  have L:=LateI.start (fr:=-1) (.inr rfl) hq
  rw [show (⟨20,0⟩:ID)=tLate from rfl]at hV
  generalize (advertiseB bLate (-1) tLate q).1=c at *
  generalize (advertiseB bLate (-1) tLate q).2=os at *
  simp [t8,ePK,List.replicate,mkIsl,e15,hN,e18,hP,e42,hV,turn]
  refine l8a (fr:=-1) (loc:=true) hq (.inl ⟨rfl,rfl⟩) p.has p.vals hP l hl l 0 0 bLate c _ _ rfl L (by decide) ?_ ?_ ?_ ?_ ?_ ?_ ?_ ?_ ?_ ?_ ?_ ?_ ?_ ?_ ?_ ?_
  all_goals simp
end Go.Dm.Tc
/-
RouteWide: plain laws: the widest subscription,and its end.
-/
namespace Go.Dm.Tc
def wWide:ID:=⟨30,0⟩
theorem ent_add {b:Broker} {e:Entry} (h:InvK b) (h':InvK (addB b e).1) {t s:ID} {d:Entry} (hd:entOf b t s=some d):entOf (addB b e).1 t s=some d:=by
 have hm:=(entOf_some h.re).1 hd
 rw [entOf_some h'.re]
 refine ⟨?_,hm.2⟩
 unfold addB
 split
 ·exact insE_mem.2 (.inr hm.1)
 ·exact hm.1
theorem add_under {b:Broker} (h:InvK b) {t:ID} (hw:entOf b t wWide=some ⟨t,wWide,[],-1,true⟩) (x:ID) (p:Pred):(addB b ⟨t,x,p,-1,false⟩).2=false:=by
 have hc:coveredB b.entries t p=true:=coveredB_iff.2 ⟨_,((entOf_some h.re).1 hw).1,rfl,rfl,covers_nil p⟩
 unfold addB
 split
 ·unfold upOf
  simp [hc]
 ·rfl
structure WideI (A:List Advert) (b:Broker) (i:Nat):Prop where
 inv:InvK b
 sz:SzK b (i+4)
 adv:b.adverts=A
 w:∀a∈A,entOf b a.id wWide=some ⟨a.id,wWide,[],-1,true⟩
 own:∀o∈b.owns,o.id=wWide∨o.id.client<i
 hasw:⟨wWide,[]⟩∈b.owns
theorem wide_pass {A:List Advert} {x:ID} {p:Pred} (hp:PredOk p):∀(r:List Advert) (st:Broker×List OutS),(∀a∈r,a∈A)→InvK st.1→(∀a∈A,entOf st.1 a.id wWide=some ⟨a.id,wWide,[],-1,true⟩)→st.2=[] →
  (∀a∈A,entOf (r.foldl (subStep x p) st).1 a.id wWide=some ⟨a.id,wWide,[],-1,true⟩)∧(r.foldl (subStep x p) st).2=[]∧(r.foldl (subStep x p) st).1.adverts=st.1.adverts∧(r.foldl (subStep x p) st).1.owns=st.1.owns
 | [],st,_,_,hw,ho=>⟨hw,ho,rfl,rfl⟩
 | a::r,st,hA,hi,hw,ho=>by
  have hs:InvK (subStep x p st a).1∧(∀c∈A,entOf (subStep x p st a).1 c.id wWide=some ⟨c.id,wWide,[],-1,true⟩)∧(subStep x p st a).2=[]∧(subStep x p st a).1.adverts=st.1.adverts∧(subStep x p st a).1.owns=st.1.owns:=by
   unfold subStep
   split
   ·have h':=hi.add (e:=⟨a.id,x,p,-1,false⟩) (by simp [linkB]) hp
    obtain ⟨_,r2,_,r4,_⟩:=addB_rows st.1 ⟨a.id,x,p,-1,false⟩
    refine ⟨h',fun c hc=>ent_add hi h' (hw c hc),?_,r2,r4⟩
    rw [add_under hi (hw a (hA a (List.mem_cons_self ..))) x p]
    simpa using ho
   ·exact ⟨hi,hw,ho,rfl,rfl⟩
  obtain ⟨h1,h2,h3,h4,h5⟩:=hs
  obtain ⟨k1,k2,k3,k4⟩:=wide_pass hp r (subStep x p st a) (fun c hc=>hA c (List.mem_cons_of_mem _ hc)) h1 h2 h3
  exact ⟨k1,k2,k3.trans h4,k4.trans h5⟩
theorem WideI.step {A : List Advert} {b : Broker} {i : Nat} (h : WideI A b i) {p : Pred} (hp : PredOk p) : (subscribeB b ⟨(i : Int), 1⟩ p).2 = [] ∧ WideI A (subscribeB b ⟨(i : Int), 1⟩ p).1 (i + 1) := by
  have hno : ∀ o ∈ b.owns, o.id ≠ ⟨(i : Int), 1⟩ := fun o ho e => by
    rcases h.own o ho with h1 | h1
    · rw [e] at h1
      have := congrArg ID.seq h1
      simp [wWide] at this
    · rw [e] at h1; simp at h1
  obtain ⟨k1, k2⟩ := subscribe_keep (x := ⟨(i : Int), 1⟩) h.inv h.sz hp
  have hs : subscribeB b ⟨(i : Int), 1⟩ p = b.adverts.foldl (subStep ⟨(i : Int), 1⟩ p) (subOwn b ⟨(i : Int), 1⟩ p, []) := by
    unfold subscribeB
    rw [hit_no_own h.inv.ro hno]; rfl
  have hio := h.inv.subOwn hp hno
  obtain ⟨p1, p2, p3, p4⟩ := wide_pass (A := A) hp b.adverts (subOwn b ⟨(i : Int), 1⟩ p, []) (fun a ha => by rw [h.adv] at ha; exact ha) hio (fun a ha => h.w a ha) rfl
  rw [← hs] at p1 p2 p3 p4
  have hmem : ∀ o, o ∈ (subOwn b ⟨(i : Int), 1⟩ p).owns ↔ o = ⟨⟨(i : Int), 1⟩, p⟩ ∨ o ∈ b.owns := fun o => ins_mem (fun o : OwnS => o.id) ⟨⟨(i : Int), 1⟩, p⟩ b.owns o
  refine ⟨p2, k1, by have : i + 1 + 4 = i + 4 + 1 := by omega
                     rw [this]; exact k2, p3.trans h.adv, p1, ?_, ?_⟩
  · intro o ho
    rw [p4] at ho
    rcases (hmem o).1 ho with rfl | ho
    · right; simp only; omega
    · rcases h.own o ho with h1 | h1
      · exact .inl h1
      · right; omega
  · rw [p4]; exact (hmem _).2 (.inr h.hasw)
structure WideEnd (A:List Advert) (nb:Broker) (done r:List Advert) (outs:List OutS):Prop where
 inv:InvK nb
 w:∀a∈r,entOf nb a.id wWide=some ⟨a.id,wWide,[],-1,true⟩
 each:∀o∈outs,(∃ a∈done,a.id=o.tree)∧(o.kind=4∧o.id=wWide∨o.kind=3∧∃ e,entOf nb o.tree o.id=some e∧e.up=true)
 pairs:outs.Pairwise fun x y=>x.kind=4→ltID x.tree y.tree=true
 cnt:(outs.countP fun o=>decide (o.kind=4))=done.length
end Go.Dm.Tc
/-
RouteWide: the widest subscription,and its end: the law's walk.
-/
namespace Go.Dm.Tc
end Go.Dm.Tc
/-
RouteWide: the law's walk,its first loop and the whole.
-/
namespace Go.Dm.Tc
end Go.Dm.Tc
