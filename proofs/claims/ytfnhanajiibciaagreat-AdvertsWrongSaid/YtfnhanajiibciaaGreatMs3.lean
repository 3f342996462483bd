/-
What the statements' books compute: a broker copied, its rows on the heap.
-/
import Derived.Test.YtfnhanajiibciaaGreatMs1
import Derived.Test.YtfnhanajiibciaaGreatMs2
import Derived.Test.YtfnhanajiibciaaGreatMs0
set_option linter.all false
namespace Go.Dm.Tc
theorem lowI_ {lo lo':Nat} {h:Heap} {id ety sz:Nat} {xs:List DV} (w:OwnI lo h id ety sz xs) (hl:lo'≤lo):OwnI lo' h id ety sz xs:=⟨w.get,w.lim,Nat.le_trans hl w.lo⟩
structure Rows5 (lo:Nat) (h:Heap) (b:Broker) (i1 i2 i3 i4 i5:Nat):Prop where
 r1:OwnI lo h i1 3 1 (b.near.map cInt)
 r2:OwnI lo h i2 42 4 (b.adverts.map eAdvert)
 r3:OwnI lo h i3 37 2 (b.seen.map eID)
 r4:OwnI lo h i4 58 7 (b.entries.map eEntry)
 r5:OwnI lo h i5 60 3 (b.owns.map eOwn)
def rawB (b:Broker) (i1 i2 i3 i4 i5:Nat):DV:=.agg [.int .i64 b.me,.sl i1 1 0 b.near.length,.sl i2 4 0 b.adverts.length,.sl i3 2 0 b.seen.length,.sl i4 7 0 b.entries.length,.sl i5 3 0 b.owns.length]
set_option maxRecDepth 8000 in
set_option maxHeartbeats 4000000 in
theorem q17 {h:Heap} {A:Option (DV×Heap)} {t:Tags} {b:Broker} (hA:fc D 17 [eBroker t b] h=A) (z:Sized b) (wf:WF h) (hlim:h.lim≤h.n) :
  ∃ i1 i2 i3 i4 i5 h',A=some (rawB b i1 i2 i3 i4 i5,h')∧Rows5 h.n h' b i1 i2 i3 i4 i5∧Ext h.n h h':=by
 subst hA
 obtain ⟨me,near,adverts,seen,entries,owns⟩:=b
 obtain ⟨z1,z2,z3,z4,z5⟩:=z
 simp only at z1 z2 z3 z4 z5
 rw [e17,goRun_eq _ _ _ _ (by simp [t17])]
 obtain ⟨t1,t2,t3,t4,t5⟩:=t
 simp only [eBroker]
 simp [t17]
 have hx0:Ext h.n h ((h.push (.arr 29 6 [.agg [.int .i64 me,eL t1 1 cInt near,eL t2 4 eAdvert adverts,eL t3 2 eID seen,eL t4 7 eEntry entries,eL t5 3 eOwn owns]] (some 1))).push (.arr 29 6 [.agg [.int .i64 0,.nsl,.nsl,.nsl,.nsl,.nsl]] (some 1))):=(Ext.refl (Nat.le_refl _) wf).push.push
 generalize hH0:(h.push _).push _=H0 at *
 have g0:H0.get h.n=some (.arr 29 6 [.agg [.int .i64 me,eL t1 1 cInt near,eL t2 4 eAdvert adverts,eL t3 2 eID seen,eL t4 7 eEntry entries,eL t5 3 eOwn owns]] (some 1)):=by rw [←hH0];simp
 have k0:H0.get (h.n+1)=some (.arr 29 6 [.agg [.int .i64 0,.nsl,.nsl,.nsl,.nsl,.nsl]] (some 1)):=by rw [←hH0];simp
 have w0:WF H0:=hx0.wf
 have q0:H0.lim=h.lim:=hx0.lim
 have n0:h.n+2≤H0.n:=by rw [←hH0];simp
 have nn:H0.n=h.n+1+1:=by rw [←hH0];rfl
 rw [←nn]
 generalize hA:appendD _ _ _ _ _ _=A
 obtain ⟨i1,K1,rfl,o1,x1,y1,_⟩:=(OwnI.fresh (lo:=h.n+2) (h:=H0) (ety:=3) (sz:=1) (xs:=[]) (cap:=some 0) (by omega) (by omega)).append (n:=0) rfl w0.push (by simp;omega) (by simp;omega) hA (by simp;omega) (by decide)
 clear hA
 rw [List.nil_append]at o1
 have a1:=x1.get h.n (by omega)
 have b1:=x1.get (h.n+1) (by omega)
 have e1:=x1.lim
 have u1:=x1.wf
 have m1:=x1.le
 have z1':=(hx0.push (o:=.arr 3 1 [] (some 0))).trans (x1.lower (by omega:h.n≤h.n+2))
 have c0:¬h.n=H0.n:=by omega
 have c1:¬h.n+1=H0.n:=by omega
 simp [c0,c1,g0,k0,q0]at a1 b1 e1
 have l1:h.n<K1.n:=by omega
 have d1:¬h.n=K1.n:=by omega
 simp [a1,b1,e1,u1,l1,d1,hlim,turn]
 generalize hH1:K1.set h.n _=H1
 have nn1:H1.n=K1.n:=by rw [←hH1];rfl
 rw [←nn1]
 have g1:H1.get h.n=some (.arr 29 6 [.agg [.int .i64 me,.sl i1 1 0 near.length,eL t2 4 eAdvert adverts,eL t3 2 eID seen,eL t4 7 eEntry entries,eL t5 3 eOwn owns]] (some 1)):=by rw [←hH1];simp [u1,l1]
 have k1:H1.get (h.n+1)=some (.arr 29 6 [.agg [.int .i64 0,.nsl,.nsl,.nsl,.nsl,.nsl]] (some 1)):=by rw [←hH1];simp [u1,l1,b1]
 have w1:WF H1:=by rw [←hH1];exact u1.set
 have q1:H1.lim=h.lim:=by rw [←hH1];exact e1
 have n1:h.n+2≤H1.n:=by rw [←hH1];exact m1
 replace o1:=o1.setLow (o:=.arr 29 6 [.agg [.int .i64 me,.sl i1 1 0 near.length,eL t2 4 eAdvert adverts,eL t3 2 eID seen,eL t4 7 eEntry entries,eL t5 3 eOwn owns]] (some 1)) u1 (by omega:h.n<h.n+2) l1
 rw [hH1]at o1
 have hx1:Ext h.n h H1:=⟨by omega,q1,fun id hid=>by rw [←hH1,get_set u1 l1,if_neg (by omega)];exact z1'.get id hid,w1⟩
 replace hx0:=hx1
 generalize hA:appendD _ _ _ _ _ _=A
 obtain ⟨i2,K2,rfl,o2,x2,y2,_⟩:=(OwnI.fresh (lo:=h.n+2) (h:=H1) (ety:=42) (sz:=4) (xs:=[]) (cap:=some 0) (by omega) (by omega)).append (n:=0) rfl w1.push (by simp;omega) (by simp;omega) hA (by simp;omega) (by decide)
 clear hA
 rw [List.nil_append]at o2
 replace o1:=(o1.push).keep y2 x2.lim (by decide)
 have a2:=x2.get h.n (by omega)
 have b2:=x2.get (h.n+1) (by omega)
 have e2:=x2.lim
 have u2:=x2.wf
 have m2:=x2.le
 have z2':=(hx0.push (o:=.arr 42 4 [] (some 0))).trans (x2.lower (by omega:h.n≤h.n+2))
 have c0:¬h.n=H1.n:=by omega
 have c1:¬h.n+1=H1.n:=by omega
 simp [c0,c1,g1,k1,q1]at a2 b2 e2
 have l2:h.n<K2.n:=by omega
 have d2:¬h.n=K2.n:=by omega
 simp [a2,b2,e2,u2,l2,d2,hlim,turn]
 generalize hH2:K2.set h.n _=H2
 have nn2:H2.n=K2.n:=by rw [←hH2];rfl
 rw [←nn2]
 have g2:H2.get h.n=some (.arr 29 6 [.agg [.int .i64 me,.sl i1 1 0 near.length,.sl i2 4 0 adverts.length,eL t3 2 eID seen,eL t4 7 eEntry entries,eL t5 3 eOwn owns]] (some 1)):=by rw [←hH2];simp [u2,l2]
 have k2:H2.get (h.n+1)=some (.arr 29 6 [.agg [.int .i64 0,.nsl,.nsl,.nsl,.nsl,.nsl]] (some 1)):=by rw [←hH2];simp [u2,l2,b2]
 have w2:WF H2:=by rw [←hH2];exact u2.set
 have q2:H2.lim=h.lim:=by rw [←hH2];exact e2
 have n2:h.n+2≤H2.n:=by rw [←hH2];exact m2
 replace o1:=o1.setLow (o:=.arr 29 6 [.agg [.int .i64 me,.sl i1 1 0 near.length,.sl i2 4 0 adverts.length,eL t3 2 eID seen,eL t4 7 eEntry entries,eL t5 3 eOwn owns]] (some 1)) u2 (by omega:h.n<h.n+2) l2
 replace o2:=o2.setLow (o:=.arr 29 6 [.agg [.int .i64 me,.sl i1 1 0 near.length,.sl i2 4 0 adverts.length,eL t3 2 eID seen,eL t4 7 eEntry entries,eL t5 3 eOwn owns]] (some 1)) u2 (by omega:h.n<h.n+2) l2
 rw [hH2]at o1
 rw [hH2]at o2
 have hx2:Ext h.n h H2:=⟨by omega,q2,fun id hid=>by rw [←hH2,get_set u2 l2,if_neg (by omega)];exact z2'.get id hid,w2⟩
 replace hx0:=hx2
 generalize hA:appendD _ _ _ _ _ _=A
 obtain ⟨i3,K3,rfl,o3,x3,y3,_⟩:=(OwnI.fresh (lo:=h.n+2) (h:=H2) (ety:=37) (sz:=2) (xs:=[]) (cap:=some 0) (by omega) (by omega)).append (n:=0) rfl w2.push (by simp;omega) (by simp;omega) hA (by simp;omega) (by decide)
 clear hA
 rw [List.nil_append]at o3
 replace o1:=(o1.push).keep y3 x3.lim (by decide)
 replace o2:=(o2.push).keep y3 x3.lim (by decide)
 have a3:=x3.get h.n (by omega)
 have b3:=x3.get (h.n+1) (by omega)
 have e3:=x3.lim
 have u3:=x3.wf
 have m3:=x3.le
 have z3':=(hx0.push (o:=.arr 37 2 [] (some 0))).trans (x3.lower (by omega:h.n≤h.n+2))
 have c0:¬h.n=H2.n:=by omega
 have c1:¬h.n+1=H2.n:=by omega
 simp [c0,c1,g2,k2,q2]at a3 b3 e3
 have l3:h.n<K3.n:=by omega
 have d3:¬h.n=K3.n:=by omega
 simp [a3,b3,e3,u3,l3,d3,hlim,turn]
 generalize hH3:K3.set h.n _=H3
 have nn3:H3.n=K3.n:=by rw [←hH3];rfl
 rw [←nn3]
 have g3:H3.get h.n=some (.arr 29 6 [.agg [.int .i64 me,.sl i1 1 0 near.length,.sl i2 4 0 adverts.length,.sl i3 2 0 seen.length,eL t4 7 eEntry entries,eL t5 3 eOwn owns]] (some 1)):=by rw [←hH3];simp [u3,l3]
 have k3:H3.get (h.n+1)=some (.arr 29 6 [.agg [.int .i64 0,.nsl,.nsl,.nsl,.nsl,.nsl]] (some 1)):=by rw [←hH3];simp [u3,l3,b3]
 have w3:WF H3:=by rw [←hH3];exact u3.set
 have q3:H3.lim=h.lim:=by rw [←hH3];exact e3
 have n3:h.n+2≤H3.n:=by rw [←hH3];exact m3
 replace o1:=o1.setLow (o:=.arr 29 6 [.agg [.int .i64 me,.sl i1 1 0 near.length,.sl i2 4 0 adverts.length,.sl i3 2 0 seen.length,eL t4 7 eEntry entries,eL t5 3 eOwn owns]] (some 1)) u3 (by omega:h.n<h.n+2) l3
 replace o2:=o2.setLow (o:=.arr 29 6 [.agg [.int .i64 me,.sl i1 1 0 near.length,.sl i2 4 0 adverts.length,.sl i3 2 0 seen.length,eL t4 7 eEntry entries,eL t5 3 eOwn owns]] (some 1)) u3 (by omega:h.n<h.n+2) l3
 replace o3:=o3.setLow (o:=.arr 29 6 [.agg [.int .i64 me,.sl i1 1 0 near.length,.sl i2 4 0 adverts.length,.sl i3 2 0 seen.length,eL t4 7 eEntry entries,eL t5 3 eOwn owns]] (some 1)) u3 (by omega:h.n<h.n+2) l3
 rw [hH3]at o1
 rw [hH3]at o2
 rw [hH3]at o3
 have hx3:Ext h.n h H3:=⟨by omega,q3,fun id hid=>by rw [←hH3,get_set u3 l3,if_neg (by omega)];exact z3'.get id hid,w3⟩
 replace hx0:=hx3
 generalize hA:appendD _ _ _ _ _ _=A
 obtain ⟨i4,K4,rfl,o4,x4,y4,_⟩:=(OwnI.fresh (lo:=h.n+2) (h:=H3) (ety:=58) (sz:=7) (xs:=[]) (cap:=some 0) (by omega) (by omega)).append (n:=0) rfl w3.push (by simp;omega) (by simp;omega) hA (by simp;omega) (by decide)
 clear hA
 rw [List.nil_append]at o4
 replace o1:=(o1.push).keep y4 x4.lim (by decide)
 replace o2:=(o2.push).keep y4 x4.lim (by decide)
 replace o3:=(o3.push).keep y4 x4.lim (by decide)
 have a4:=x4.get h.n (by omega)
 have b4:=x4.get (h.n+1) (by omega)
 have e4:=x4.lim
 have u4:=x4.wf
 have m4:=x4.le
 have z4':=(hx0.push (o:=.arr 58 7 [] (some 0))).trans (x4.lower (by omega:h.n≤h.n+2))
 have c0:¬h.n=H3.n:=by omega
 have c1:¬h.n+1=H3.n:=by omega
 simp [c0,c1,g3,k3,q3]at a4 b4 e4
 have l4:h.n<K4.n:=by omega
 have d4:¬h.n=K4.n:=by omega
 simp [a4,b4,e4,u4,l4,d4,hlim,turn]
 generalize hH4:K4.set h.n _=H4
 have nn4:H4.n=K4.n:=by rw [←hH4];rfl
 rw [←nn4]
 have g4:H4.get h.n=some (.arr 29 6 [.agg [.int .i64 me,.sl i1 1 0 near.length,.sl i2 4 0 adverts.length,.sl i3 2 0 seen.length,.sl i4 7 0 entries.length,eL t5 3 eOwn owns]] (some 1)):=by rw [←hH4];simp [u4,l4]
 have k4:H4.get (h.n+1)=some (.arr 29 6 [.agg [.int .i64 0,.nsl,.nsl,.nsl,.nsl,.nsl]] (some 1)):=by rw [←hH4];simp [u4,l4,b4]
 have w4:WF H4:=by rw [←hH4];exact u4.set
 have q4:H4.lim=h.lim:=by rw [←hH4];exact e4
 have n4:h.n+2≤H4.n:=by rw [←hH4];exact m4
 replace o1:=o1.setLow (o:=.arr 29 6 [.agg [.int .i64 me,.sl i1 1 0 near.length,.sl i2 4 0 adverts.length,.sl i3 2 0 seen.length,.sl i4 7 0 entries.length,eL t5 3 eOwn owns]] (some 1)) u4 (by omega:h.n<h.n+2) l4
 replace o2:=o2.setLow (o:=.arr 29 6 [.agg [.int .i64 me,.sl i1 1 0 near.length,.sl i2 4 0 adverts.length,.sl i3 2 0 seen.length,.sl i4 7 0 entries.length,eL t5 3 eOwn owns]] (some 1)) u4 (by omega:h.n<h.n+2) l4
 replace o3:=o3.setLow (o:=.arr 29 6 [.agg [.int .i64 me,.sl i1 1 0 near.length,.sl i2 4 0 adverts.length,.sl i3 2 0 seen.length,.sl i4 7 0 entries.length,eL t5 3 eOwn owns]] (some 1)) u4 (by omega:h.n<h.n+2) l4
 replace o4:=o4.setLow (o:=.arr 29 6 [.agg [.int .i64 me,.sl i1 1 0 near.length,.sl i2 4 0 adverts.length,.sl i3 2 0 seen.length,.sl i4 7 0 entries.length,eL t5 3 eOwn owns]] (some 1)) u4 (by omega:h.n<h.n+2) l4
 rw [hH4]at o1
 rw [hH4]at o2
 rw [hH4]at o3
 rw [hH4]at o4
 have hx4:Ext h.n h H4:=⟨by omega,q4,fun id hid=>by rw [←hH4,get_set u4 l4,if_neg (by omega)];exact z4'.get id hid,w4⟩
 replace hx0:=hx4
 generalize hA:appendD _ _ _ _ _ _=A
 obtain ⟨i5,K5,rfl,o5,x5,y5,_⟩:=(OwnI.fresh (lo:=h.n+2) (h:=H4) (ety:=60) (sz:=3) (xs:=[]) (cap:=some 0) (by omega) (by omega)).append (n:=0) rfl w4.push (by simp;omega) (by simp;omega) hA (by simp;omega) (by decide)
 clear hA
 rw [List.nil_append]at o5
 replace o1:=(o1.push).keep y5 x5.lim (by decide)
 replace o2:=(o2.push).keep y5 x5.lim (by decide)
 replace o3:=(o3.push).keep y5 x5.lim (by decide)
 replace o4:=(o4.push).keep y5 x5.lim (by decide)
 have a5:=x5.get h.n (by omega)
 have b5:=x5.get (h.n+1) (by omega)
 have e5:=x5.lim
 have u5:=x5.wf
 have m5:=x5.le
 have z5':=(hx0.push (o:=.arr 60 3 [] (some 0))).trans (x5.lower (by omega:h.n≤h.n+2))
 have c0:¬h.n=H4.n:=by omega
 have c1:¬h.n+1=H4.n:=by omega
 simp [c0,c1,g4,k4,q4]at a5 b5 e5
 have l5:h.n<K5.n:=by omega
 have l5b:h.n+1<K5.n:=by omega
 have d5:¬h.n=h.n+1:=by omega
 have d5':¬h.n+1=h.n:=by omega
 have l5c:h.lim≤h.n+1:=by omega
 simp [a5,b5,e5,u5,l5,l5b,l5c,d5,d5',hlim,turn,rawB]
 refine ⟨i1,i2,i3,i4,i5,_,⟨⟨rfl,rfl,rfl,rfl,rfl⟩,rfl⟩,?_,?_⟩
 ·exact ⟨lowI_ ((o1.setLow u5 (by omega) l5).setLow u5.set (by omega) l5b) (by omega),lowI_ ((o2.setLow u5 (by omega) l5).setLow u5.set (by omega) l5b) (by omega),lowI_ ((o3.setLow u5 (by omega) l5).setLow u5.set (by omega) l5b) (by omega),lowI_ ((o4.setLow u5 (by omega) l5).setLow u5.set (by omega) l5b) (by omega),lowI_ ((o5.setLow u5 (by omega) l5).setLow u5.set (by omega) l5b) (by omega)⟩
 ·refine ⟨by show h.n≤K5.n;omega,e5,fun id hid=>?_,u5.set.set⟩
  rw [get_set u5.set l5b,if_neg (by omega),get_set u5 l5,if_neg (by omega)]
  exact z5'.get id hid
end Go.Dm.Tc
/-
AdvertsWrong: plain laws: what is wrong with a broker that was changed.
-/
namespace Go.Dm.Tc
def wrongB (b:Broker):Nat→Broker
 | 0=>{b with near:=b.near++[b.near.headD 0]}
 | 1=>{b with adverts:=b.adverts++[⟨⟨99,0⟩,[],-1⟩]}
 | 2=>{b with entries:=b.entries++[⟨⟨98,0⟩,⟨0,0⟩,[],-1,false⟩]}
 | 3=>{b with owns:=b.owns++[⟨⟨-1,0⟩,[]⟩,⟨⟨-1,0⟩,[]⟩]}
 | 4=>{b with seen:=b.seen++[⟨97,0⟩,⟨97,0⟩]}
 | _=>{b with owns:=⟨⟨-5,0⟩,[⟨[],0,0,0,[]⟩]⟩::b.owns}
theorem rises_cons2 {α:Type} {p:α→α→Bool}:∀(l:List α) {x y:α} (r:List α),risesB p (l++x::y::r)=true→p x y=true
 | [],x,y,r,h=>by
  simp only [List.nil_append,risesB,Bool.and_eq_true]at h
  exact h.1
 | [a],x,y,r,h=>by
  simp only [List.cons_append,List.nil_append,risesB,Bool.and_eq_true]at h
  exact h.2.1
 | a::c::l,x,y,r,h=>by
  simp only [List.cons_append,risesB,Bool.and_eq_true]at h
  exact rises_cons2 (c::l) r (by simpa using h.2)
theorem rises_pair {l:List Int} (h:risesB (fun x y=>decide (x<y)) l=true):l.Pairwise (·<·):=by
 induction l with
 | nil=>exact .nil
 | cons a l ih =>
  cases l with
  | nil=>exact List.pairwise_singleton ..
  | cons b r =>
   simp only [risesB,Bool.and_eq_true]at h
   have hab:a<b:=by simpa using h.1
   have ih:=ih h.2
   refine List.pairwise_cons.2 ⟨fun c hc=>?_,ih⟩
   rcases List.mem_cons.1 hc with rfl|hc
   ·exact hab
   ·have:=(List.pairwise_cons.1 ih).1 c hc
    omega
theorem wrong_right {b:Broker} (h:InvK b) (hl:LowK b) (k:Nat):rightB (wrongB b k)=false:=by
 have key:∀x,rightRows x=false→rightB x=false:=fun x hx=>by unfold rightB;rw [hx];rfl
 match k with
 | 0 =>
  refine key _ ?_
  unfold wrongB rightRows
  have hne:=hl.ne
  cases hn:b.near with
  | nil=>rw [hn]at hne;simp at hne
  | cons a r =>
   have:risesB (fun x y=>decide (x<y)) (a::r++[a])=false:=by
    cases hq:risesB (fun x y=>decide (x<y)) (a::r++[a]) with
    | false=>rfl
    | true =>
     have:=rises_pair hq
     rw [List.cons_append,List.pairwise_cons]at this
     have:=this.1 a (by simp)
     omega
   simp only [List.headD_cons,this,Bool.false_and]
 | 1 =>
  unfold rightB
  have:((wrongB b 1).adverts.any fun a=>!rightAdv (wrongB b 1) a)=true:=by
   rw [List.any_eq_true]
   refine ⟨⟨⟨99,0⟩,[],-1⟩,by simp [wrongB],?_⟩
   have hs:(⟨99,0⟩:ID) ∉ b.seen:=fun hm=>by have:=hl.seen _ hm;simp only at this;omega
   unfold rightAdv
   have:decide ((⟨99,0⟩:ID)∈(wrongB b 1).seen)=false:=decide_eq_false hs
   simp only [this,Bool.false_and,Bool.not_false]
  rw [this]
  simp
 | 2 =>
  unfold rightB
  have:((wrongB b 2).entries.any fun e=>!rightEnt (wrongB b 2) e)=true:=by
   rw [List.any_eq_true]
   refine ⟨⟨⟨98,0⟩,⟨0,0⟩,[],-1,false⟩,by simp [wrongB],?_⟩
   have hf:rightEnt (wrongB b 2) ⟨⟨98,0⟩,⟨0,0⟩,[],-1,false⟩=false:=by
    cases hq:rightEnt (wrongB b 2) ⟨⟨98,0⟩,⟨0,0⟩,[],-1,false⟩ with
    | false=>rfl
    | true =>
     obtain ⟨a,ha,_⟩:=rightEnt_iff.1 hq
     have hm:a∈b.adverts:=List.mem_of_find?_eq_some ha
     have hid:=List.find?_some ha
     have hid':a.id=⟨98,0⟩:=by simpa using hid
     have:=hl.seen _ (h.sub a hm)
     rw [hid']at this;simp only at this;omega
   rw [hf];rfl
  rw [this]
  simp
 | 3 =>
  refine key _ ?_
  unfold wrongB rightRows
  have:risesB (fun x y:OwnS=>ltID x.id y.id) (b.owns++[⟨⟨-1,0⟩,[]⟩,⟨⟨-1,0⟩,[]⟩])=false:=by
   cases hq:risesB (fun x y:OwnS=>ltID x.id y.id) (b.owns++[⟨⟨-1,0⟩,[]⟩,⟨⟨-1,0⟩,[]⟩]) with
   | false=>rfl
   | true=>have:=rises_cons2 b.owns [] hq;revert this;decide
  simp [this]
 | 4 =>
  refine key _ ?_
  unfold wrongB rightRows
  have:risesB (fun x y:ID=>ltID x y) (b.seen++[⟨97,0⟩,⟨97,0⟩])=false:=by
   cases hq:risesB (fun x y:ID=>ltID x y) (b.seen++[⟨97,0⟩,⟨97,0⟩]) with
   | false=>rfl
   | true=>have:=rises_cons2 b.seen [] hq;revert this;decide
  simp [this]
 | n+5 =>
  unfold rightB
  have:((wrongB b (n+5)).owns.any fun o=>!rightP o.pred)=true:=by
   rw [List.any_eq_true]
   exact ⟨⟨⟨-5,0⟩,[⟨[],0,0,0,[]⟩]⟩,by simp [wrongB],by decide⟩
  rw [this]
  simp
theorem wrong_ne (b:Broker) (k:Nat):wrongB b k≠b:=by
 intro e
 match k with
 | 0=>have:=congrArg (fun b=>b.near.length) e;simp [wrongB]at this
 | 1=>have:=congrArg (fun b=>b.adverts.length) e;simp [wrongB]at this
 | 2=>have:=congrArg (fun b=>b.entries.length) e;simp [wrongB]at this
 | 3=>have:=congrArg (fun b=>b.owns.length) e;simp [wrongB]at this
 | 4=>have:=congrArg (fun b=>b.seen.length) e;simp [wrongB]at this
 | n+5=>have:=congrArg (fun b=>b.owns.length) e;simp [wrongB]at this
end Go.Dm.Tc
/-
AdvertsWrong: what functions answer of a broker one of whose own predicates lies in a row of its own.
-/
namespace Go.Dm.Tc
structure OwnT where
 id:ID
 pred:Pred
 tg:Bool
def eOwnT (o:OwnT):DV:=.agg [.int .i64 o.id.client,.int .i64 o.id.seq,eL o.tg 5 eCons o.pred]
theorem yl152 (t:Bool) (xs:List OwnT) (g:Nat) (cap:List DV) (p:OwnT→Bool) (hg:∀x∈xs,∀h,fc D g ([eOwnT x]++cap) h=some (.bool (p x),h)) (hl:xs.length≤1000000) :
  ∀(rest:List OwnT) (i:Nat) (f:FEnv) (h:Heap),xs.drop i=rest→f 0=eL t 3 eOwnT xs→f 1=.func g cap→f 7=.int .i64 xs.length→f 8=.int .i64 i →
  pcOut (fin [.t 4] (run D 19 [.block 0,.seq t152k0] (.loop t152l0) f h))=some (.int .i64 (idxOf ((rest.findIdx? p).map (·+i)))):=by
 intro rest
 induction rest with
 | nil =>
  intro i f h hd h0 h1 h7 h8
  have hi:=drop_nil hd
  have:¬(i<xs.length):=by omega
  rw [run_loop_of t152l0.eq_1]
  simp [t152k0,h7,h8,this,idxOf]
 | cons e rest ih =>
  intro i f h hd h0 h1 h7 h8
  obtain ⟨hi,he,hd'⟩:=drop_at hd
  have hgx:=hg e (by rw [←he];exact List.getElem_mem hi)
  simp only [eOwnT,List.cons_append,List.nil_append]at hgx
  rw [run_loop_of t152l0.eq_1]
  cases hp:p e with
  | true=>simp [h0,h1,h7,h8,hi,he,eOwnT,hgx,hp,idxOf,List.findIdx?_cons]
  | false =>
   simp [h0,h1,h7,h8,hi,he,eOwnT,hgx,hp]
   rw [wrap64 (by omega) (by omega)]
   refine (ih (i+1) _ h hd' ?_ ?_ ?_ ?_).trans ?_<;>simp [h0,h1,h7,List.findIdx?_cons,hp]
   congr 2
   funext q
   simp
   omega
theorem ys152 (t:Bool) (xs:List OwnT) (g:Nat) (cap:List DV) (p:OwnT→Bool) (hg:∀x∈xs,∀h,fc D g ([eOwnT x]++cap) h=some (.bool (p x),h)) (hl:xs.length≤1000000) :
  pcF D t152 [eL t 3 eOwnT xs,.func g cap]=some (.int .i64 (idxOf (xs.findIdx? p))):=by
 unfold pcF
 rw [goRun_eq _ _ _ _ (by simp [t152])]
 simp [t152]
 refine (yl152 t xs g cap p hg hl xs 0 _ _ rfl ?_ ?_ ?_ ?_).trans ?_<;>simp
theorem ys109 (t:Bool) (xs:List OwnT) (g:Nat) (cap:List DV) (p:OwnT→Bool) (hc:∀x∈cap,Flat 20 x) (hg:∀x∈xs,∀h,fc D g ([eOwnT x]++cap) h=some (.bool (p x),h)) (hl:xs.length≤1000000) :
  pcF D t109 [eL t 3 eOwnT xs,.func g cap]=some (.bool (xs.any p)):=by
 unfold pcF
 rw [goRun_eq _ _ _ _ (by simp [t109])]
 have hf:∀tg h,resolve tg h 200 (.func g cap)=some (.func g cap):=fun tg h=>flat_func (k:=20) hc tg h 200 (by decide)
 simp [t109,e152,hf,-res_func,ys152 t xs g cap p hg hl]
 have:=idxOf_ge p xs
 simpa using this
theorem yl96 (t:Bool) (xs:List OwnT) (g:Nat) (p:OwnT→OwnT→Bool) (hg:∀x∈xs,∀y∈xs,∀h,fc D g [eOwnT x,eOwnT y] h=some (.bool (p x y),h)) (hl:xs.length≤1000000) :
  ∀(rest:List OwnT) (a:OwnT) (i:Nat) (f:FEnv) (h:Heap),xs.drop i=a::rest→f 0=eL t 3 eOwnT xs→f 1=.func g []→f 5=.int .i64 ((i:Int)+1) →
  pcOut (fin [.t 4] (run D 24 [.block 0,.seq t96k0] (.loop t96l0) f h))=some (.bool (risesB p (a::rest))):=by
 intro rest
 induction rest with
 | nil =>
  intro a i f h hd h0 h1 h5
  obtain ⟨hi,he,hd'⟩:=drop_at hd
  have hi:=drop_nil hd'
  have:¬((i:Int)+1<xs.length):=by omega
  rw [run_loop_of t96l0.eq_1]
  simp [t96k0,h0,h5,this,risesB]
 | cons e rest ih =>
  intro a i f h hd h0 h1 h5
  obtain ⟨hi,he,hd'⟩:=drop_at hd
  obtain ⟨hi',he',hd''⟩:=drop_at hd'
  have hgx:=hg a (by rw [←he];exact List.getElem_mem hi) e (by rw [←he'];exact List.getElem_mem hi')
  simp only [eOwnT]at hgx
  have hlt:(i:Int)+1<xs.length:=by omega
  have hw:IntKind.i64.wrap (i:Int)=i:=wrap64 (by omega) (by omega)
  rw [run_loop_of t96l0.eq_1]
  cases hp:p a e with
  | true =>
   simp [h0,h1,h5,hi,hi',he,he',eOwnT,hgx,hp,hlt,hw]
   rw [wrap64 (by omega) (by omega)]
   refine (ih e (i+1) _ _ hd' ?_ ?_ ?_).trans ?_<;>simp [h0,h1,risesB,hp,eOwnT]
  | false =>
   simp [h0,h1,h5,hi,hi',he,he',eOwnT,hgx,hp,hlt,hw,risesB]
theorem ys96 (t:Bool) (xs:List OwnT) (g:Nat) (p:OwnT→OwnT→Bool) (hg:∀x∈xs,∀y∈xs,∀h,fc D g [eOwnT x,eOwnT y] h=some (.bool (p x y),h)) (hl:xs.length≤1000000) :
  pcF D t96 [eL t 3 eOwnT xs,.func g []]=some (.bool (risesB p xs)):=by
 unfold pcF
 rw [goRun_eq _ _ _ _ (by simp [t96])]
 simp [t96]
 cases xs with
 | nil =>
  rw [run_loop_of t96l0.eq_1]
  simp [t96k0,risesB]
 | cons a r=>refine (yl96 t (a::r) g p hg hl r a 0 _ _ rfl ?_ ?_ ?_).trans ?_<;>simp
theorem y103 (tg:Bool) (t:Tags) (b:Broker) (l:List OwnT) (a:Advert) (hs:Sized b) (hr:Rising b.seen) (hp:NamesP a.pred) :
  pcF D t103 [.agg [.int .i64 a.id.client,.int .i64 a.id.seq,ePred a.pred,.int .i64 a.parent],.iptr tg [.int .i64 b.me,eL t.near 1 cInt b.near,eL t.adverts 4 eAdvert b.adverts,eL t.seen 2 eID b.seen,eL t.entries 7 eEntry b.entries,eL true 3 eOwnT l] 0]=some (.bool (!rightAdv b a)):=by
 obtain ⟨z1,z2,z3,z4,z5⟩:=hs
 have f:=fun {α:Type} (t:Bool) (sz:Nat) (e:α→DV) (xs:List α)=>(flat_eL t sz e xs).mono (show 1≤20 by decide)
 have hsn:=s57 (.int .i64 b.me) (eL t.near 1 cInt b.near) (eL t.adverts 4 eAdvert b.adverts) (eL t.entries 7 eEntry b.entries) (eL true 3 eOwnT l) t.seen b.seen a.id.client a.id.seq hr (by omega) ((flat_int _ _).mono (by decide)) (f _ _ _ _) (f _ _ _ _) (f _ _ _ _) (f _ _ _ _)
 have hlk:=s104 (.int .i64 b.me) (eL t.adverts 4 eAdvert b.adverts) (eL t.seen 2 eID b.seen) (eL t.entries 7 eEntry b.entries) (eL true 3 eOwnT l) t.near b.near a.parent (by omega)
 have hrt:=s105 a.pred hp
 obtain ⟨S,hS⟩:∃ S,decide (a.id∈b.seen)=S:=⟨_,rfl⟩
 obtain ⟨L,hL⟩:∃ L,linkB b a.parent=L:=⟨_,rfl⟩
 obtain ⟨R,hR⟩:∃ R,rightP a.pred=R:=⟨_,rfl⟩
 rw [show decide ((⟨a.id.client,a.id.seq⟩:ID)∈b.seen)=S from hS]at hsn
 rw [show (decide (a.parent=-1) || b.near.contains a.parent)=L from hL]at hlk
 rw [hR]at hrt
 unfold pcF
 rw [goRun_eq _ _ _ _ (by simp [t103])]
 cases S<;>cases L<;>cases R<;>simp [t103,e57,hsn,e104,hlk,e105,hrt,rightAdv,hS,hL,hR]
theorem y107 (tg:Bool) (t:Tags) (b:Broker) (l:List OwnT) (e:Entry) (hs:Sized b) (hr:Rising (b.adverts.map (·.id))) (hp:NamesP e.pred) :
  pcF D t107 [.agg [.int .i64 e.tree.client,.int .i64 e.tree.seq,.int .i64 e.sub.client,.int .i64 e.sub.seq,ePred e.pred,.int .i64 e.frm,.bool e.up],.iptr tg [.int .i64 b.me,eL t.near 1 cInt b.near,eL t.adverts 4 eAdvert b.adverts,eL t.seen 2 eID b.seen,eL t.entries 7 eEntry b.entries,eL true 3 eOwnT l] 0]=some (.bool (!rightEnt b e)):=by
 obtain ⟨z1,z2,z3,z4,z5⟩:=hs
 have f:=fun {α:Type} (t:Bool) (sz:Nat) (e:α→DV) (xs:List α)=>(flat_eL t sz e xs).mono (show 1≤20 by decide)
 have hre:=s108 b.me (eL t.seen 2 eID b.seen) (eL t.entries 7 eEntry b.entries) (eL true 3 eOwnT l) t.adverts t.near b.near b.adverts e b rfl rfl hr (by omega) (by omega) (f _ _ _ _) (f _ _ _ _) (f _ _ _ _) hp
 unfold pcF
 rw [goRun_eq _ _ _ _ (by simp [t107])]
 simp [t107,e108,hre]
set_option maxRecDepth 8000 in
theorem y27 (t:Tags) (b:Broker) (l:List OwnT) (p7:OwnT→Bool) (hi:InvK b) (hs:Sized b) (hl:l.length≤1000000) (h7:∀x∈l,∀h,fc D 110 [eOwnT x] h=some (.bool (p7 x),h)) (hany:l.any p7=true) :
  pcF D t27 [.agg [.int .i64 b.me,eL t.near 1 cInt b.near,eL t.adverts 4 eAdvert b.adverts,eL t.seen 2 eID b.seen,eL t.entries 7 eEntry b.entries,eL true 3 eOwnT l]]=some (.bool false):=by
 have hs':=hs
 have hp:=hi.sizedN
 obtain ⟨z1,z2,z3,z4,z5⟩:=hs'
 have q1:=s91 t.near b.near 92 (fun x y=>decide (x<y)) (fun x _ y _ h=>by simp [cInt,e92,s92]) (by omega)
 have q2:=s93 t.seen b.seen 56 (fun x y=>ltID x y) (fun x _ y _ h=>by simp [eID,e56,s56]) (by omega)
 have q3:=s94 t.adverts b.adverts 95 (fun x y=>ltID x.id y.id) (fun x _ y _ h=>by simp [eAdvert,e95,s95]) (by omega)
 have q4:=ys96 true l 97 (fun x y=>ltID x.id y.id) (fun x _ y _ h=>by simp [eOwnT,e97,s97]) hl
 have q5:=s98 t.entries b.entries 99 ltE (fun x _ y _ h=>by simp [eEntry,e99,s99,ltE]) (by omega)
 have q8:=ys109 true l 110 [] p7 (by simp) (fun x hx h=>by simpa using h7 x hx h) hl
 have q6:=s102 t.adverts b.adverts 103 [.iptr true [.int .i64 b.me,eL t.near 1 cInt b.near,eL t.adverts 4 eAdvert b.adverts,eL t.seen 2 eID b.seen,eL t.entries 7 eEntry b.entries,eL true 3 eOwnT l] 0] (fun a=>!rightAdv b a) (fun x hx=>by
  simp only [List.mem_singleton]at hx;subst hx;exact (flat_iptr _ _ _).mono (by decide)) (fun x hx h=>by
  simp [eAdvert,e103,y103 true t b l x hs hi.rs (hp.adv x hx)]) (by omega)
 have q7:=s106 t.entries b.entries 107 [.iptr true [.int .i64 b.me,eL t.near 1 cInt b.near,eL t.adverts 4 eAdvert b.adverts,eL t.seen 2 eID b.seen,eL t.entries 7 eEntry b.entries,eL true 3 eOwnT l] 0] (fun a=>!rightEnt b a) (fun x hx=>by
  simp only [List.mem_singleton]at hx;subst hx;exact (flat_iptr _ _ _).mono (by decide)) (fun x hx h=>by
  simp [eEntry,e107,y107 true t b l x hs hi.ra (hp.ent x hx)]) (by omega)
 rw [hi.near]at q1
 rw [show risesB (fun x y=>ltID x y) b.seen=true from of_rising (key:=fun a:ID=>a) (by simpa using hi.rs)]at q2
 rw [of_rising (key:=fun a:Advert=>a.id) hi.ra]at q3
 rw [of_risesE hi.re]at q5
 rw [hany]at q8
 have n6:(b.adverts.any fun a=>!rightAdv b a)=false:=by
  rw [List.any_eq_false]
  intro a ha
  simp [rightAdv,hi.sub a ha,hi.par a ha,(hi.pa a ha).right]
 have n7:(b.entries.any fun e=>!rightEnt b e)=false:=by
  rw [List.any_eq_false]
  intro e he
  simp [hi.ent e he]
 rw [n6]at q6
 rw [n7]at q7
 unfold pcF
 rw [goRun_eq _ _ _ _ (by simp [t27])]
 cases h4:risesB (fun x y:OwnT=>ltID x.id y.id) l with
 | false =>
  rw [h4]at q4
  simp [t27,e91,q1,e93,q2,e94,q3,e96,q4]
 | true =>
  rw [h4]at q4
  simp [t27,e91,q1,e93,q2,e94,q3,e96,q4,e98,q5,e102,q6,e106,q7,e109,q8]
theorem y89 {α β:Type} (t u:Bool) (e:α→DV) (e':β→DV) (xs:List α) (ys:List β) (g:Nat) (h:xs.length≠ys.length):pcF D t89 [eL t 3 e xs,eL u 3 e' ys,.func g []]=some (.bool false):=by
 have h2:¬((xs.length:Int)=ys.length):=by omega
 unfold pcF
 rw [goRun_eq _ _ _ _ (by simp [t89])]
 simp [t89,h2]
theorem y26 {α β:Type} (t u:Tags) (e:α→DV) (e':β→DV) (a:Broker) (xs:List α) (ys:List β) (hs:Sized a) (hp:SizedP a) (hne:xs.length≠ys.length) :
  pcF D t26 [.agg [.int .i64 a.me,eL t.near 1 cInt a.near,eL t.adverts 4 eAdvert a.adverts,eL t.seen 2 eID a.seen,eL t.entries 7 eEntry a.entries,eL t.owns 3 e xs],.agg [.int .i64 a.me,eL u.near 1 cInt a.near,eL u.adverts 4 eAdvert a.adverts,eL u.seen 2 eID a.seen,eL u.entries 7 eEntry a.entries,eL u.owns 3 e' ys]]=some (.bool false):=by
 obtain ⟨z1,z2,z3,z4,z5⟩:=hs
 have q1:=s82 t.near u.near a.near a.near (by omega)
 have q2:=s83 t.seen u.seen a.seen a.seen (by omega)
 have q3:=s84 t.adverts u.adverts a.adverts a.adverts 85 (fun x y=>decide (x=y)) (fun x hx y _ h=>by
  have:=s85 x y (hp.adv x hx)
  simp only [eAdvert]at this
  simp [eAdvert,e85,this]) (by omega)
 have q4:=s87 t.entries u.entries a.entries a.entries 88 (fun x y=>decide (x=y)) (fun x hx y _ h=>by
  have:=s88 x y (hp.ent x hx)
  simp only [eEntry]at this
  simp [eEntry,e88,this]) (by omega)
 have q5:=y89 t.owns u.owns e e' xs ys 90 hne
 rw [allB_eq]at q3 q4
 rw [decide_eq_true rfl]at q1 q2 q3 q4
 unfold pcF
 rw [goRun_eq _ _ _ _ (by simp [t26])]
 simp [t26,q1,q2,q3,q4,q5,e82,e83,e84,e87,e89]
end Go.Dm.Tc
/-
AdvertsWrong: whatever is wrong with a broker is seen: the law's walk.
-/
namespace Go.Dm.Tc
theorem wrong_sized {b:Broker} (z:Sized b) (hz:SzK b 12) (k:Nat):Sized (wrongB b k):=by
 obtain ⟨z1,z2,z3,z4,z5⟩:=hz
 match k with
 | 0=>exact ⟨by simp [wrongB];omega,z.adv,z.seen,z.ent,z.own⟩
 | 1=>exact ⟨z.near,by simp [wrongB];omega,z.seen,z.ent,z.own⟩
 | 2=>exact ⟨z.near,z.adv,z.seen,by simp [wrongB];omega,z.own⟩
 | 3=>exact ⟨z.near,z.adv,z.seen,z.ent,by simp [wrongB];omega⟩
 | 4=>exact ⟨z.near,z.adv,by simp [wrongB];omega,z.ent,z.own⟩
 | n+5=>exact ⟨z.near,z.adv,z.seen,z.ent,by simp [wrongB];omega⟩
theorem wrong_names {b:Broker} (h:InvK b) (k:Nat):SizedN (wrongB b k):=by
 have hn:=h.sizedN
 have h0:NamesP []:=⟨by simp,fun c hc=>(by cases hc)⟩
 have h1:NamesP [⟨[],0,0,0,[]⟩]:=⟨by simp,fun c hc=>by rw [List.mem_singleton.1 hc];simp⟩
 match k with
 | 0=>exact ⟨hn.1,hn.2,hn.3⟩
 | 1 =>
  refine ⟨fun a ha=>?_,hn.2,hn.3⟩
  rcases List.mem_append.1 ha with ha|ha
  ·exact hn.1 a ha
  ·rw [List.mem_singleton.1 ha];exact h0
 | 2 =>
  refine ⟨hn.1,fun a ha=>?_,hn.3⟩
  rcases List.mem_append.1 ha with ha|ha
  ·exact hn.2 a ha
  ·rw [List.mem_singleton.1 ha];exact h0
 | 3 =>
  refine ⟨hn.1,hn.2,fun a ha=>?_⟩
  rcases List.mem_append.1 ha with ha|ha
  ·exact hn.3 a ha
  ·simp at ha;rw [ha];exact h0
 | 4=>exact ⟨hn.1,hn.2,hn.3⟩
 | n+5 =>
  refine ⟨hn.1,hn.2,fun a ha=>?_⟩
  rcases List.mem_cons.1 ha with rfl|ha
  ·exact h1
  ·exact hn.3 a ha
def tAll:Tags:=⟨true,true,true,true,true⟩
set_option maxRecDepth 16000 in
set_option maxHeartbeats 4000000 in
theorem k4 {b:Broker} (hi:InvK b) (hz:SzK b 12) (hl:LowK b) (k:Nat) (v1 v2 v3 v4 v5:DV) (X:Nat) (f:FEnv) (h:Heap) (h5:f 5=.ptr 1 6 0 0) (h6:f 6=.ptr X 6 0 0)
  (g1:h.get 1=some (.arr 29 6 [eBroker .none b] (some 1))) (gX:h.get X=some (.arr 29 6 [.agg [.int .i64 b.me,v1,v2,v3,v4,v5]] (some 1)))
  (r1:resolve true h 199 v1=some (eL true 1 cInt (wrongB b k).near)) (r2:resolve true h 199 v2=some (eL true 4 eAdvert (wrongB b k).adverts)) (r3:resolve true h 199 v3=some (eL true 2 eID (wrongB b k).seen)) (r4:resolve true h 199 v4=some (eL true 7 eEntry (wrongB b k).entries)) (r5:resolve true h 199 v5=some (eL true 3 eOwn (wrongB b k).owns)) :
  pcOut (fin [.t 4] (run D 98 [] t4s0 f h))=some (.bool true):=by
 have z:=hz.sized (by decide)
 have zw:=wrong_sized z hz k
 have hn:=wrong_names hi k
 have hp:SizedP (wrongB b k):=⟨fun a ha=>(hn.1 a ha).1,fun a ha=>(hn.2 a ha).1,fun a ha=>(hn.3 a ha).1⟩
 have hR:=s27 tAll (wrongB b k) zw hn
 rw [wrong_right hi hl k]at hR
 have hS1:=s26 tAll .none (wrongB b k) b zw hp
 rw [decide_eq_false (wrong_ne b k)]at hS1
 have hS2:=s26 .none tAll b (wrongB b k) z hi.sizedP
 rw [decide_eq_false (fun e=>wrong_ne b k e.symm)]at hS2
 have hA:=s28
 have hme:(wrongB b k).me=b.me:=by
  match k with
  | 0=>rfl
  | 1=>rfl
  | 2=>rfl
  | 3=>rfl
  | 4=>rfl
  | n+5=>rfl
 generalize wrongB b k=c at *
 have hcc:DV.agg [.int .i64 b.me,eL true 1 cInt c.near,eL true 4 eAdvert c.adverts,eL true 2 eID c.seen,eL true 7 eEntry c.entries,eL true 3 eOwn c.owns]=eBroker tAll c:=by rw [←hme];rfl
 simp only [t4s0]
 simp [h5,h6,g1,gX,r1,r2,r3,r4,r5,hcc,e27,hR,e26,hS1,hS2,e28,hA,turn]
theorem ownI_set {lo:Nat} {h:Heap} {i ety sz X:Nat} {xs:List DV} {o:DO} (w:OwnI lo h i ety sz xs) (wf:WF h) (hX:X<h.n) (hne:i≠X):OwnI lo (h.set X o) i ety sz xs:=by
 obtain ⟨⟨sp,cap,hg⟩,hl,hi⟩:=w
 exact ⟨⟨sp,cap,by rw [get_set wf hX,if_neg hne];exact hg⟩,hl,hi⟩
theorem res_set {α:Type} {e:α→DV} {lo:Nat} {h:Heap} {i ety sz X:Nat} {xs:List α} {o:DO} (w:OwnI lo h i ety sz (xs.map e)) (wf:WF h) (hX:X<h.n) (hne:i≠X) (hf:∀y,Flat 20 (e y)):resolve true (h.set X o) 199 (.sl i sz 0 xs.length)=some (eL true sz e xs):=by
 have:=(ownI_set (o:=o) w wf hX hne).toR.resolve (n:=199) true (fun y _=>hf y) (by decide)
 simpa using this
theorem res_raw {α:Type} {e:α→DV} {lo:Nat} {h:Heap} {id ety sz n:Nat} {xs ys:List α} {raws:List DV} (w:OwnI lo h id ety sz (xs.map e++raws)) (hf:∀y,Flat 20 (e y)) (hr:raws.mapM (resolve true h 198)=some (ys.map e)) (hn:n=xs.length+raws.length) :
  resolve true h 199 (.sl id sz 0 n)=some (eL true sz e (xs++ys)):=by
 subst hn
 obtain ⟨sp,cap,hg⟩:=w.get
 have hl:((xs.map e++raws)++sp).take (xs.length+raws.length)=xs.map e++raws:=List.take_left' (by simp)
 have hx:(xs.map e).mapM (resolve true h 198)=some (xs.map e):=mapM_self fun x hx=>by
  obtain ⟨y,_,rfl⟩:=List.mem_map.1 hx
  exact hf y true h 198 (by decide)
 have hm:(xs.map e++raws).mapM (resolve true h 198)=some ((xs++ys).map e):=by
  rw [List.mapM_append,hx,hr,List.map_append];rfl
 rw [res_sl_eq,hg,resSlO_some,if_pos ⟨rfl,by simp⟩,List.drop_zero,hl]
 show islO true sz ((xs.map e++raws).mapM (resolve true h 198))=_
 rw [hm];rfl
def zCons:Cons:=⟨[],0,0,0,[]⟩
def ownsT (b:Broker):List OwnT:=⟨⟨-5,0⟩,[zCons],true⟩::b.owns.map fun o=>⟨o.id,o.pred,false⟩
theorem s110_z:pcF D t110 [.agg [.int .i64 (-5),.int .i64 0,.isl true 5 [.agg [.str [],.int .i64 0,.int .i64 0,.int .i64 0,.str []]]]]=some (.bool true):=pc_run (n:=2000) (args:=[.agg [.int .i64 (-5),.int .i64 0,.isl true 5 [.agg [.str [],.int .i64 0,.int .i64 0,.int .i64 0,.str []]]]]) e110 rfl (by kernel_rfl)
set_option maxRecDepth 16000 in
set_option maxHeartbeats 4000000 in
theorem k4z {b:Broker} (hi:InvK b) (hz:SzK b 12) (v1 v2 v3 v4 v5:DV) (X:Nat) (f:FEnv) (h:Heap) (h5:f 5=.ptr 1 6 0 0) (h6:f 6=.ptr X 6 0 0)
  (g1:h.get 1=some (.arr 29 6 [eBroker .none b] (some 1))) (gX:h.get X=some (.arr 29 6 [.agg [.int .i64 b.me,v1,v2,v3,v4,v5]] (some 1)))
  (r1:resolve true h 199 v1=some (eL true 1 cInt b.near)) (r2:resolve true h 199 v2=some (eL true 4 eAdvert b.adverts)) (r3:resolve true h 199 v3=some (eL true 2 eID b.seen)) (r4:resolve true h 199 v4=some (eL true 7 eEntry b.entries)) (r5:resolve true h 199 v5=some (eL true 3 eOwnT (ownsT b))) :
  pcOut (fin [.t 4] (run D 98 [] t4s0 f h))=some (.bool true):=by
 have z:=hz.sized (by decide)
 have hl:(ownsT b).length=b.owns.length+1:=by simp [ownsT]
 have hlo:=z.own
 have hR:=y27 tAll b (ownsT b) (fun x=>!rightP x.pred) hi z (by omega) (fun x hx h=>by
  rcases List.mem_cons.1 hx with rfl|hx
  ·have:=s110_z
   have hz7:rightP [zCons]=false:=by decide
   have ri:∀h:Heap,resolve true h 199 (.isl true 5 [.agg [.str [],.int .i64 0,.int .i64 0,.int .i64 0,.str []]])=some (.isl true 5 [.agg [.str [],.int .i64 0,.int .i64 0,.int .i64 0,.str []]]):=fun _=>rfl
   have he:eOwnT ⟨⟨-5,0⟩,[zCons],true⟩=.agg [.int .i64 (-5),.int .i64 0,.isl true 5 [.agg [.str [],.int .i64 0,.int .i64 0,.int .i64 0,.str []]]]:=rfl
   rw [he]
   simp [e110,ri,this,hz7]
  ·obtain ⟨o,ho,rfl⟩:=List.mem_map.1 hx
   have:=s110 o.id.client o.id.seq o.pred (hi.sizedN.own o ho)
   have he:eOwnT ⟨o.id,o.pred,false⟩=.agg [.int .i64 o.id.client,.int .i64 o.id.seq,ePred o.pred]:=rfl
   rw [he]
   simp [e110,this]) (by simp [ownsT];left;decide)
 have hS1:=y26 tAll .none eOwnT eOwn b (ownsT b) b.owns z hi.sizedP (by omega)
 have hS2:=y26 .none tAll eOwn eOwnT b b.owns (ownsT b) z hi.sizedP (by omega)
 have hA:=s28
 have hbb:eBroker .none b=DV.agg [.int .i64 b.me,eL Tags.none.near 1 cInt b.near,eL Tags.none.adverts 4 eAdvert b.adverts,eL Tags.none.seen 2 eID b.seen,eL Tags.none.entries 7 eEntry b.entries,eL Tags.none.owns 3 eOwn b.owns]:=rfl
 rw [←hbb]at hS1 hS2
 simp only [tAll]at hR hS1 hS2
 generalize ownsT b=l at *
 simp only [t4s0]
 simp [h5,h6,g1,gX,r1,r2,r3,r4,r5,e27,hR,e26,hS1,hS2,e28,hA,turn]
theorem res_first {lo:Nat} {h:Heap} {id ety n:Nat} {b:Broker} {raw:DV} (w:OwnI lo h id ety 3 (raw::b.owns.map eOwn)) (hr:resolve true h 198 raw=some (eOwnT ⟨⟨-5,0⟩,[zCons],true⟩)) (hn:n=b.owns.length+1) :
  resolve true h 199 (.sl id 3 0 n)=some (eL true 3 eOwnT (ownsT b)):=by
 subst hn
 obtain ⟨sp,cap,hg⟩:=w.get
 have hl:((raw::b.owns.map eOwn)++sp).take (b.owns.length+1)=raw::b.owns.map eOwn:=List.take_left' (by simp)
 have hx:(b.owns.map eOwn).mapM (resolve true h 198)=some (b.owns.map eOwn):=mapM_self fun x hx=>by
  obtain ⟨y,_,rfl⟩:=List.mem_map.1 hx
  exact (plain_own y).1 true h 198 (by decide)
 have hm:(raw::b.owns.map eOwn).mapM (resolve true h 198)=some ((ownsT b).map eOwnT):=by
  rw [List.mapM_cons,hr,hx]
  simp only [ownsT,List.map_cons,List.map_map]
  rfl
 rw [res_sl_eq,hg,resSlO_some,if_pos ⟨rfl,by simp⟩,List.drop_zero,hl]
 show islO true 3 ((raw::b.owns.map eOwn).mapM (resolve true h 198))=_
 rw [hm];rfl
set_option maxRecDepth 16000 in
set_option maxHeartbeats 4000000 in
theorem s4 (k:BrokK) (what:Int) (hk:∀z∈k.steps,z.has.length≤9223372036854775807) :
  pcF D t4 [eBrokK k,.int .i64 what]=some (.bool true):=by
 have hB:=s29 false k.near k.steps hk
 obtain ⟨hi,hz⟩:=brokerK_keep k.near k.steps
 have hlow:=brokerK_low k.near k.steps
 generalize brokerK k.near k.steps=b at *
 have z:=hz.sized (by decide)
 have w1:=s16 what 0 5 (by decide) (by decide) (by decide)
 have b1:=within_bounds what (lo:=0) (hi:=5) (by decide)
 generalize within what 0 5=W at *
 have hRt:=kRight .none hi z
 have hSm:=kSame .none hi z .none b
 unfold pcF
 rw [goRun_eq _ _ _ _ (by simp [t4])]
 simp [t4,eBrokK,e29,hB,e27,hRt,e26,hSm,turn]
 generalize hA:fc D _ _ _=A
 obtain ⟨i1,i2,i3,i4,i5,K,rfl,R,x⟩:=q17 hA z (by simp) (by simp)
 clear hA
 obtain ⟨r1,r2,r3,r4,r5⟩:=R
 have a0:=x.get 0 (by simp)
 have a1:=x.get 1 (by simp)
 have al:=x.lim
 have aw:=x.wf
 have an:=x.le
 simp at a0 a1 al an r1 r2 r3 r4 r5
 obtain ⟨m,hmn⟩:∃ m,K.n=m+2:=⟨K.n-2,by omega⟩
 have hW:W=0∨W=1∨W=2∨W=3∨W=4∨W=5:=by omega
 have p1:=r1.lt
 have p2:=r2.lt
 have p3:=r3.lt
 have p4:=r4.lt
 have p5:=r5.lt
 have s1:=r1.lo
 have s2:=r2.lo
 have s3:=r3.lo
 have s4:=r4.lo
 have s5:=r5.lo
 have hne:=hlow.ne
 obtain ⟨zz1,zz2,zz3,zz4,zz5⟩:=z
 simp only [rawB]
 rcases hW with rfl|rfl|rfl|rfl|rfl|rfl
 ·obtain ⟨sp,cap,hg⟩:=r1.get
  have hx:(b.near.map cInt++sp)[0]?=some (.int .i64 (b.near.headD 0)):=by
   cases hq:b.near with
   | nil=>rw [hq]at hne;simp at hne
   | cons a r=>rfl
  have e1:¬i1=m+2:=by omega
  have hix:indexAddrV 1 (.sl i1 1 0 b.near.length) (.int .i64 0)=some (.ptr i1 1 0 0):=by simp [indexAddrV,asI,hne]
  simp [a1,al,aw,hmn,e16,w1,turn,hg,hx,hne,e1,hix]
  generalize hA:appendD _ _ _ _ _ _=A
  obtain ⟨i,K2,rfl,q,x2,y2,jj⟩:=(r1.push.push).append (by simp) (by simp [aw]) (by simp [hmn]<;>omega) (by simp [al]) hA (by simp<;>omega) (by decide)
  clear hA
  have q2:=(r2.push.push).keep y2 x2.lim (by decide)
  have q3:=(r3.push.push).keep y2 x2.lim (by decide)
  have q4:=(r4.push.push).keep y2 x2.lim (by decide)
  have q5:=(r5.push.push).keep y2 x2.lim (by decide)
  have c1:=x2.get 1 (by decide)
  have cX:=y2 (m+2) (.arr 29 6 [.agg [.int .i64 b.me,.sl i1 1 0 b.near.length,.sl i2 4 0 b.adverts.length,.sl i3 2 0 b.seen.length,.sl i4 7 0 b.entries.length,.sl i5 3 0 b.owns.length]] (some 1)) (by simp [hmn]) (fun s xs c e=>by injection e with e1;revert e1;decide)
  have cl:=x2.lim
  have cw:=x2.wf
  have cn:m+2<K2.n:=by have:=get_some_lt cX;omega
  have qq:=q.lt
  have u2:i2≠m+2:=by omega
  have u3:i3≠m+2:=by omega
  have u4:i4≠m+2:=by omega
  have u5:i5≠m+2:=by omega
  have u1:i≠m+2:=fun e=>by
   obtain ⟨s2,cp2,hg2⟩:=q.get
   rw [e,cX]at hg2
   injection hg2 with hg2
   injection hg2 with e1
   revert e1;decide
  simp [hmn,a1,al]at c1 cl
  rw [show b.near.head?.getD 0=b.near.headD 0 by cases b.near<;>rfl]at q
  simp [cX,cl,cw,cn,turn]
  refine k4 hi hz hlow 0 (.sl i 1 0 (b.near.length+1)) (.sl i2 4 0 b.adverts.length) (.sl i3 2 0 b.seen.length) (.sl i4 7 0 b.entries.length) (.sl i5 3 0 b.owns.length) (m+2) _ _ ?_ ?_ ?_ ?_ ?_ (res_set q2 cw cn u2 (fun y=>(plain_advert y).1)) (res_set q3 cw cn u3 (fun y=>(plain_id y).1)) (res_set q4 cw cn u4 (fun y=>(plain_entry y).1)) (res_set q5 cw cn u5 (fun y=>(plain_own y).1))
  ·simp
  ·simp
  ·simp [c1,cw,cn]
  ·simp [cw,cn]
  ·exact res_raw (xs:=b.near) (ys:=[b.near.headD 0]) (ownI_set q cw cn u1) (fun y=>(plain_cint y).1) rfl rfl
 ·obtain ⟨sp,cap,hg⟩:=r2.get
  simp [a1,al,aw,hmn,e16,w1,turn,List.replicate,mkIsl]
  generalize hA:appendD _ _ _ _ _ _=A
  obtain ⟨i,K2,rfl,q,x2,y2,jj⟩:=(r2.push.push).append (by simp) (by simp [aw]) (by simp [hmn]<;>omega) (by simp [al]) hA (by simp<;>omega) (by decide)
  clear hA
  have q1:=(r1.push.push).keep y2 x2.lim (by decide)
  have q3:=(r3.push.push).keep y2 x2.lim (by decide)
  have q4:=(r4.push.push).keep y2 x2.lim (by decide)
  have q5:=(r5.push.push).keep y2 x2.lim (by decide)
  have c1:=x2.get 1 (by decide)
  have cX:=y2 (m+2) (.arr 29 6 [.agg [.int .i64 b.me,.sl i1 1 0 b.near.length,.sl i2 4 0 b.adverts.length,.sl i3 2 0 b.seen.length,.sl i4 7 0 b.entries.length,.sl i5 3 0 b.owns.length]] (some 1)) (by simp [hmn]) (fun s xs c e=>by injection e with e1;revert e1;decide)
  have cl:=x2.lim
  have cw:=x2.wf
  have cn:m+2<K2.n:=by have:=get_some_lt cX;omega
  have qq:=q.lt
  have u1:i1≠m+2:=by omega
  have u3:i3≠m+2:=by omega
  have u4:i4≠m+2:=by omega
  have u5:i5≠m+2:=by omega
  have u2:i≠m+2:=fun e=>by
   obtain ⟨s2,cp2,hg2⟩:=q.get
   rw [e,cX]at hg2
   injection hg2 with hg2
   injection hg2 with e1
   revert e1;decide
  simp [hmn,a1,al]at c1 cl
  simp [cX,cl,cw,cn,turn]
  refine k4 hi hz hlow 1 (.sl i1 1 0 b.near.length) (.sl i 4 0 (b.adverts.length+1)) (.sl i3 2 0 b.seen.length) (.sl i4 7 0 b.entries.length) (.sl i5 3 0 b.owns.length) (m+2) _ _ ?_ ?_ ?_ ?_ (res_set q1 cw cn u1 (fun y=>(plain_cint y).1)) ?_ (res_set q3 cw cn u3 (fun y=>(plain_id y).1)) (res_set q4 cw cn u4 (fun y=>(plain_entry y).1)) (res_set q5 cw cn u5 (fun y=>(plain_own y).1))
  ·simp
  ·simp
  ·simp [c1,cw,cn]
  ·simp [cw,cn]
  ·exact res_raw (xs:=b.adverts) (ys:=[⟨⟨99,0⟩,[],-1⟩]) (ownI_set q cw cn u2) (fun y=>(plain_advert y).1) rfl rfl
 ·obtain ⟨sp,cap,hg⟩:=r4.get
  simp [a1,al,aw,hmn,e16,w1,turn,List.replicate,mkIsl]
  generalize hA:appendD _ _ _ _ _ _=A
  obtain ⟨i,K2,rfl,q,x2,y2,jj⟩:=(r4.push.push).append (by simp) (by simp [aw]) (by simp [hmn]<;>omega) (by simp [al]) hA (by simp<;>omega) (by decide)
  clear hA
  have q1:=(r1.push.push).keep y2 x2.lim (by decide)
  have q2:=(r2.push.push).keep y2 x2.lim (by decide)
  have q3:=(r3.push.push).keep y2 x2.lim (by decide)
  have q5:=(r5.push.push).keep y2 x2.lim (by decide)
  have c1:=x2.get 1 (by decide)
  have cX:=y2 (m+2) (.arr 29 6 [.agg [.int .i64 b.me,.sl i1 1 0 b.near.length,.sl i2 4 0 b.adverts.length,.sl i3 2 0 b.seen.length,.sl i4 7 0 b.entries.length,.sl i5 3 0 b.owns.length]] (some 1)) (by simp [hmn]) (fun s xs c e=>by injection e with e1;revert e1;decide)
  have cl:=x2.lim
  have cw:=x2.wf
  have cn:m+2<K2.n:=by have:=get_some_lt cX;omega
  have qq:=q.lt
  have u1:i1≠m+2:=by omega
  have u2:i2≠m+2:=by omega
  have u3:i3≠m+2:=by omega
  have u5:i5≠m+2:=by omega
  have u4:i≠m+2:=fun e=>by
   obtain ⟨s2,cp2,hg2⟩:=q.get
   rw [e,cX]at hg2
   injection hg2 with hg2
   injection hg2 with e1
   revert e1;decide
  simp [hmn,a1,al]at c1 cl
  simp [cX,cl,cw,cn,turn]
  refine k4 hi hz hlow 2 (.sl i1 1 0 b.near.length) (.sl i2 4 0 b.adverts.length) (.sl i3 2 0 b.seen.length) (.sl i 7 0 (b.entries.length+1)) (.sl i5 3 0 b.owns.length) (m+2) _ _ ?_ ?_ ?_ ?_ (res_set q1 cw cn u1 (fun y=>(plain_cint y).1)) (res_set q2 cw cn u2 (fun y=>(plain_advert y).1)) (res_set q3 cw cn u3 (fun y=>(plain_id y).1)) ?_ (res_set q5 cw cn u5 (fun y=>(plain_own y).1))
  ·simp
  ·simp
  ·simp [c1,cw,cn]
  ·simp [cw,cn]
  ·exact res_raw (xs:=b.entries) (ys:=[⟨⟨98,0⟩,⟨0,0⟩,[],-1,false⟩]) (ownI_set q cw cn u4) (fun y=>(plain_entry y).1) rfl rfl
 ·obtain ⟨sp,cap,hg⟩:=r5.get
  simp [a1,al,aw,hmn,e16,w1,turn,List.replicate,mkIsl]
  generalize hA:appendD _ _ _ _ _ _=A
  obtain ⟨i,K2,rfl,q,x2,y2,jj⟩:=(r5.push.push).append (by simp) (by simp [aw]) (by simp [hmn]<;>omega) (by simp [al]) hA (by simp<;>omega) (by decide)
  clear hA
  have q1:=(r1.push.push).keep y2 x2.lim (by decide)
  have q2:=(r2.push.push).keep y2 x2.lim (by decide)
  have q3:=(r3.push.push).keep y2 x2.lim (by decide)
  have q4:=(r4.push.push).keep y2 x2.lim (by decide)
  have c1:=x2.get 1 (by decide)
  have cX:=y2 (m+2) (.arr 29 6 [.agg [.int .i64 b.me,.sl i1 1 0 b.near.length,.sl i2 4 0 b.adverts.length,.sl i3 2 0 b.seen.length,.sl i4 7 0 b.entries.length,.sl i5 3 0 b.owns.length]] (some 1)) (by simp [hmn]) (fun s xs c e=>by injection e with e1;revert e1;decide)
  have cl:=x2.lim
  have cw:=x2.wf
  have cn:m+2<K2.n:=by have:=get_some_lt cX;omega
  have qq:=q.lt
  have u1:i1≠m+2:=by omega
  have u2:i2≠m+2:=by omega
  have u3:i3≠m+2:=by omega
  have u4:i4≠m+2:=by omega
  have u5:i≠m+2:=fun e=>by
   obtain ⟨s2,cp2,hg2⟩:=q.get
   rw [e,cX]at hg2
   injection hg2 with hg2
   injection hg2 with e1
   revert e1;decide
  simp [hmn,a1,al]at c1 cl
  simp [cX,cl,cw,cn,turn]
  refine k4 hi hz hlow 3 (.sl i1 1 0 b.near.length) (.sl i2 4 0 b.adverts.length) (.sl i3 2 0 b.seen.length) (.sl i4 7 0 b.entries.length) (.sl i 3 0 (b.owns.length+2)) (m+2) _ _ ?_ ?_ ?_ ?_ (res_set q1 cw cn u1 (fun y=>(plain_cint y).1)) (res_set q2 cw cn u2 (fun y=>(plain_advert y).1)) (res_set q3 cw cn u3 (fun y=>(plain_id y).1)) (res_set q4 cw cn u4 (fun y=>(plain_entry y).1)) ?_
  ·simp
  ·simp
  ·simp [c1,cw,cn]
  ·simp [cw,cn]
  ·exact res_raw (xs:=b.owns) (ys:=[⟨⟨-1,0⟩,[]⟩,⟨⟨-1,0⟩,[]⟩]) (ownI_set q cw cn u5) (fun y=>(plain_own y).1) rfl rfl
 ·obtain ⟨sp,cap,hg⟩:=r3.get
  simp [a1,al,aw,hmn,e16,w1,turn,List.replicate,mkIsl]
  generalize hA:appendD _ _ _ _ _ _=A
  obtain ⟨i,K2,rfl,q,x2,y2,jj⟩:=(r3.push.push).append (by simp) (by simp [aw]) (by simp [hmn]<;>omega) (by simp [al]) hA (by simp<;>omega) (by decide)
  clear hA
  have q1:=(r1.push.push).keep y2 x2.lim (by decide)
  have q2:=(r2.push.push).keep y2 x2.lim (by decide)
  have q4:=(r4.push.push).keep y2 x2.lim (by decide)
  have q5:=(r5.push.push).keep y2 x2.lim (by decide)
  have c1:=x2.get 1 (by decide)
  have cX:=y2 (m+2) (.arr 29 6 [.agg [.int .i64 b.me,.sl i1 1 0 b.near.length,.sl i2 4 0 b.adverts.length,.sl i3 2 0 b.seen.length,.sl i4 7 0 b.entries.length,.sl i5 3 0 b.owns.length]] (some 1)) (by simp [hmn]) (fun s xs c e=>by injection e with e1;revert e1;decide)
  have cl:=x2.lim
  have cw:=x2.wf
  have cn:m+2<K2.n:=by have:=get_some_lt cX;omega
  have qq:=q.lt
  have u1:i1≠m+2:=by omega
  have u2:i2≠m+2:=by omega
  have u4:i4≠m+2:=by omega
  have u5:i5≠m+2:=by omega
  have u3:i≠m+2:=fun e=>by
   obtain ⟨s2,cp2,hg2⟩:=q.get
   rw [e,cX]at hg2
   injection hg2 with hg2
   injection hg2 with e1
   revert e1;decide
  simp [hmn,a1,al]at c1 cl
  simp [cX,cl,cw,cn,turn]
  refine k4 hi hz hlow 4 (.sl i1 1 0 b.near.length) (.sl i2 4 0 b.adverts.length) (.sl i 2 0 (b.seen.length+2)) (.sl i4 7 0 b.entries.length) (.sl i5 3 0 b.owns.length) (m+2) _ _ ?_ ?_ ?_ ?_ (res_set q1 cw cn u1 (fun y=>(plain_cint y).1)) (res_set q2 cw cn u2 (fun y=>(plain_advert y).1)) ?_ (res_set q4 cw cn u4 (fun y=>(plain_entry y).1)) (res_set q5 cw cn u5 (fun y=>(plain_own y).1))
  ·simp
  ·simp
  ·simp [c1,cw,cn]
  ·simp [cw,cn]
  ·exact res_raw (xs:=b.seen) (ys:=[⟨97,0⟩,⟨97,0⟩]) (ownI_set q cw cn u3) (fun y=>(plain_id y).1) rfl rfl
 ·obtain ⟨sp,cap,hg⟩:=r5.get
  have hel:elemsO 3 3 0 b.owns.length (some (.arr 60 3 (b.owns.map eOwn++sp) cap))=some (b.owns.map eOwn):=by
   rw [elemsO_some,if_pos ⟨rfl,rfl,by simp⟩,List.drop_zero,List.take_left' (by simp)]
  have e1:¬i5=m+2:=by omega
  have e2:¬i5=m+2+1:=by omega
  have e3:¬i5=m+2+1+1:=by omega
  simp [a1,al,aw,hmn,e16,w1,turn,List.replicate,mkIsl,hg,hel,e1,e2,e3]
  generalize hA:appendD _ _ _ _ _ _=A
  have ofr:∀p1 p2,OwnI 2 (((K.push p1).push p2).push (.arr 60 3 [.agg [.int .i64 (-5),.int .i64 0,.sl (m+2+1) 5 0 1]] (some 1))) (m+2+1+1) 60 3 [.agg [.int .i64 (-5),.int .i64 0,.sl (m+2+1) 5 0 1]]:=fun p1 p2=>by
   have:=OwnI.fresh (lo:=2) (h:=(K.push p1).push p2) (ety:=60) (sz:=3) (xs:=[.agg [.int .i64 (-5),.int .i64 0,.sl (m+2+1) 5 0 1]]) (cap:=some 1) (by simp [al]) (by simp [hmn])
   simpa [hmn] using this
  obtain ⟨i,K2,rfl,q,x2,y2,jj⟩:=(ofr _ _).append (n:=1) (by simp) (by simp [aw]) (by simp [hmn]) (by simp [al]) hA (by simp;omega) (by decide)
  clear hA
  have q1:=(r1.push.push.push).keep y2 x2.lim (by decide)
  have q2:=(r2.push.push.push).keep y2 x2.lim (by decide)
  have q3:=(r3.push.push.push).keep y2 x2.lim (by decide)
  have q4:=(r4.push.push.push).keep y2 x2.lim (by decide)
  have c1:=x2.get 1 (by decide)
  have cX:=y2 (m+2) (.arr 29 6 [.agg [.int .i64 b.me,.sl i1 1 0 b.near.length,.sl i2 4 0 b.adverts.length,.sl i3 2 0 b.seen.length,.sl i4 7 0 b.entries.length,.sl i5 3 0 b.owns.length]] (some 1)) (by simp [hmn]) (fun s xs c e=>by injection e with e1;revert e1;decide)
  have cP:=y2 (m+2+1) (.arr 62 5 [.agg [.str [],.int .i64 0,.int .i64 0,.int .i64 0,.str []]] (some 1)) (by simp [hmn]) (fun s xs c e=>by injection e with e1;revert e1;decide)
  have cl:=x2.lim
  have cw:=x2.wf
  have cn:m+2<K2.n:=by have:=get_some_lt cX;omega
  have u1:i1≠m+2:=by omega
  have u2:i2≠m+2:=by omega
  have u3:i3≠m+2:=by omega
  have u4:i4≠m+2:=by omega
  have u5:i≠m+2:=fun e=>by
   obtain ⟨s2,cp2,hg2⟩:=q.get
   rw [e,cX]at hg2
   injection hg2 with hg2
   injection hg2 with e1
   revert e1;decide
  simp [hmn,a1,al]at c1 cl
  simp [cX,cl,cw,cn,turn]
  refine k4z hi hz (.sl i1 1 0 b.near.length) (.sl i2 4 0 b.adverts.length) (.sl i3 2 0 b.seen.length) (.sl i4 7 0 b.entries.length) (.sl i 3 0 (b.owns.length+1)) (m+2) _ _ ?_ ?_ ?_ ?_ (res_set q1 cw cn u1 (fun y=>(plain_cint y).1)) (res_set q2 cw cn u2 (fun y=>(plain_advert y).1)) (res_set q3 cw cn u3 (fun y=>(plain_id y).1)) (res_set q4 cw cn u4 (fun y=>(plain_entry y).1)) ?_
  ·simp
  ·simp
  ·simp [c1,cw,cn]
  ·simp [cw,cn,Nat.add_comm]
  ·refine res_first (raw:=.agg [.int .i64 (-5),.int .i64 0,.sl (m+2+1) 5 0 1]) (by simpa using ownI_set q cw cn u5) ?_ rfl
   have:¬m+2+1=m+2:=by omega
   simp [cP,cw,cn,mkIsl]
   rfl
end Go.Dm.Tc
