/-
A graph of numbers: the function's walk.
-/
import Derived.Test.YtlknnhbggakhnaaMs0
set_option linter.all false
namespace Go.Dm.Tc
def treeL (under:List Int):Nat→List (Int×Int)
 | 0=>[]
 | n+1=>putL (treeL under n) ((n:Int)+1) (within (pickI under (n+1)) 0 n)
def moreL (m:Int):List Int→List (Int×Int)→List (Int×Int)
 | [],L=>L
 | x::r,L=>moreL m r (putL L (within x 0 (m-1)) (within (IntKind.i64.wrap (x.tdiv 8)) 0 (m-1)))
def graphL (m:Int) (under more:List Int):List (Int×Int):=moreL m (more.take 8) (treeL under (m-1).toNat)
theorem treeL_len (under:List Int):∀n,(treeL under n).length≤n
 | 0=>Nat.le_refl _
 | n+1=>by have:=putL_len (treeL under n) ((n:Int)+1) (within (pickI under (n+1)) 0 n);have:=treeL_len under n;rw [treeL];omega
theorem moreL_len (m:Int):∀(r:List Int) (L:List (Int×Int)),(moreL m r L).length≤L.length+r.length
 | [],L=>by simp [moreL]
 | x::r,L=>by
  rw [moreL]
  have:=moreL_len m r (putL L (within x 0 (m-1)) (within (IntKind.i64.wrap (x.tdiv 8)) 0 (m-1)))
  have:=putL_len L (within x 0 (m-1)) (within (IntKind.i64.wrap (x.tdiv 8)) 0 (m-1))
  simp;omega
theorem within_in (n lo hi:Int) (h:lo≤hi):lo≤within n lo hi∧within n lo hi≤hi:=by
 have h1:0<hi-lo+1:=by omega
 have h2:=Int.tmod_lt_of_pos n h1
 have h3:=Int.lt_tmod_of_pos n h1
 unfold within
 split<;>omega
theorem treeL_ok {m:Int} (under:List Int):∀n:Nat,(n:Int)+1≤m→LinksOk m (treeL under n)
 | 0,_=>LinksOk.nil m
 | n+1,h=>by
  have:=within_in (pickI under (n+1)) 0 n (by omega)
  exact (treeL_ok under n (by omega)).put ⟨by omega,by omega⟩ ⟨by omega,by omega⟩
theorem moreL_ok {m:Int} (h1:1≤m):∀(r:List Int) (L:List (Int×Int)),LinksOk m L→LinksOk m (moreL m r L)
 | [],L,h=>h
 | x::r,L,h=>by
  have e1:=within_in x 0 (m-1) (by omega)
  have e2:=within_in (IntKind.i64.wrap (x.tdiv 8)) 0 (m-1) (by omega)
  exact moreL_ok h1 r _ (h.put ⟨by omega,by omega⟩ ⟨by omega,by omega⟩)
theorem graphL_ok {m:Int} (h1:1≤m) (under more:List Int):LinksOk m (graphL m under more):=moreL_ok h1 _ _ (treeL_ok under _ (by omega))
theorem graphL_len {m:Int} (h7:m≤7) (under more:List Int):(graphL m under more).length≤14:=by
 have:=moreL_len m (more.take 8) (treeL under (m-1).toNat)
 have:=treeL_len under (m-1).toNat
 have:(more.take 8).length≤8:=by simp;omega
 unfold graphL;omega
set_option maxRecDepth 8000 in
theorem l5a (S:List Fr) (P:Res→Prop) (x0 x2:DV) (tu:Bool) (under:List Int) (m:Int) (hm:1≤m∧m≤7) :
  ∀(k i:Nat) (f:FEnv) (h:Heap),(i:Int)+k+1=m→GraphH x0 (eL tu 1 cInt under) x2 h m (treeL under i)→f 1=.ptr 0 3 0 0→f 2=.ptr 1 2 0 0→f 3=.ptr 2 2 0 0→f 5=.func 16 [.ptr 4 1 0 0,.ptr 2 2 0 0]→f 6=.int .i64 ((i:Int)+1) →
  (∀F H,GraphH x0 (eL tu 1 cInt under) x2 H m (treeL under (m-1).toNat)→F 1=.ptr 0 3 0 0→F 2=.ptr 1 2 0 0→F 3=.ptr 2 2 0 0→F 5=.func 16 [.ptr 4 1 0 0,.ptr 2 2 0 0]→P (run D 63 S t5k1 F H)) →
  P (run D 63 (.block 0::.seq t5k1::S) (.loop t5l0) f h):=by
 intro k
 induction k with
 | zero =>
  intro i f h hi g h1 h2 h3 h5 h6 hfin
  obtain ⟨v,g2,ho⟩:=g.g2
  have e1:i=(m-1).toNat:=by omega
  have e2:¬(i:Int)+1<m:=by omega
  rw [run_loop_of t5l0.eq_1]
  simp [h3,h6,g2,e2]
  exact hfin _ _ (by rw [←e1];exact g) (by simp [h1]) (by simp [h2]) (by simp [h3]) (by simp [h5])
 | succ k ih =>
  intro i f h hi g h1 h2 h3 h5 h6 hfin
  obtain ⟨v,g2,ho⟩:=g.g2
  have g0:=g.g0
  have e2:(i:Int)+1<m:=by omega
  have hl:=treeL_len under i
  obtain ⟨h',hq,g'⟩:=q16 g (treeL_ok under i (by omega)) (by omega) ((i:Int)+1) (within (pickI under (i+1)) 0 i)
  have hp:=s17 tu under (i+1)
  have hp':pcF D t17 [eL tu 1 cInt under,.int .i64 ((i:Int)+1)]=some (.int .i64 (pickI under (i+1))):=by simpa using hp
  have hw:=s6 (pickI under (i+1)) 0 i (by omega) (by decide) (by omega)
  have w1:IntKind.i64.wrap (i:Int)=i:=wrap64 (by omega) (by omega)
  have w2:IntKind.i64.wrap ((i:Int)+1+1)=(i:Int)+1+1:=wrap64 (by omega) (by omega)
  rw [run_loop_of t5l0.eq_1]
  simp [h1,h3,h5,h6,g0,g2,e2,e17,hp',e6,hw,w1,w2,hq]
  generalize hF:upd _ 6 _=F
  exact ih (i+1) F h' (by omega) g' (by rw [←hF];simp [h1]) (by rw [←hF];simp [h2]) (by rw [←hF];simp [h3]) (by rw [←hF];simp [h5]) (by rw [←hF];simp) hfin
set_option maxRecDepth 8000 in
theorem l5b (S:List Fr) (P:Res→Prop) (x0 x1:DV) (tm:Bool) (more:List Int) (m:Int) (hm:1≤m∧m≤7) :
  ∀(k i:Nat) (f:FEnv) (h:Heap) (L:List (Int×Int)),i+k=8→L.length≤6+i→LinksOk m L→GraphH x0 x1 (eL tm 1 cInt more) h m L→f 1=.ptr 0 3 0 0→f 2=.ptr 1 2 0 0→f 3=.ptr 2 2 0 0→f 5=.func 16 [.ptr 4 1 0 0,.ptr 2 2 0 0]→f 7=.int .i64 i →
  (∀F H,GraphH x0 x1 (eL tm 1 cInt more) H m (moreL m ((more.take 8).drop i) L)→F 2=.ptr 1 2 0 0→F 3=.ptr 2 2 0 0→P (run D 63 S t5k0 F H)) →
  P (run D 63 (.block 2::.seq t5k0::S) (.loop t5l1) f h):=by
 intro k
 induction k with
 | zero =>
  intro i f h L hi hl ok g h1 h2 h3 h5 h7 hfin
  have g0:=g.g0
  have e1:i=8:=by omega
  subst e1
  have hd:(more.take 8).drop 8=[]:=by simp
  rw [hd,moreL]at hfin
  rw [run_loop_of t5l1.eq_1]
  by_cases a1:8<more.length
  ·have a1':(8:Int)<more.length:=by omega
   simp [h1,h7,g0,a1,a1']
   exact hfin _ _ g (by simp [h2]) (by simp [h3])
  ·have a1':¬(8:Int)<more.length:=by omega
   simp [h1,h7,g0,a1,a1']
   exact hfin _ _ g (by simp [h2]) (by simp [h3])
 | succ k ih =>
  intro i f h L hi hl ok g h1 h2 h3 h5 h7 hfin
  obtain ⟨v,g2,ho⟩:=g.g2
  have g0:=g.g0
  have lim:=g.lim
  have gn:=g.n
  have a8:i<8:=by omega
  have a8':(i:Int)<8:=by omega
  rw [run_loop_of t5l1.eq_1]
  by_cases a1:i<more.length
  ·have a1':(i:Int)<more.length:=by omega
   obtain ⟨cv,hcv⟩:∃ cv,more[i]=cv:=⟨_,rfl⟩
   have hdr:(more.take 8).drop i=cv::(more.take 8).drop (i+1):=by
    rw [List.drop_eq_getElem_cons (by simp;omega)]
    congr 1
    rw [List.getElem_take];exact hcv
   rw [hdr,moreL]at hfin
   have hsv:arithD .quo (.int .i64 cv) (.int .i64 8)=some (.int .i64 (IntKind.i64.wrap (cv.tdiv 8))):=rfl
   have w1:=s6 cv 0 (m-1) (by omega) (by decide) (by omega)
   have w2:=s6 (IntKind.i64.wrap (cv.tdiv 8)) 0 (m-1) (by omega) (by decide) (by omega)
   have hw:IntKind.i64.wrap ((i:Int)+1)=(i:Int)+1:=wrap64 (by omega) (by omega)
   have hwm:IntKind.i64.wrap (m-1)=m-1:=wrap64 (by omega) (by omega)
   obtain ⟨h',hq,g'⟩:=q16 g ok (by omega) (within cv 0 (m-1)) (within (IntKind.i64.wrap (cv.tdiv 8)) 0 (m-1))
   have e1:=within_in cv 0 (m-1) (by omega)
   have e2:=within_in (IntKind.i64.wrap (cv.tdiv 8)) 0 (m-1) (by omega)
   have ok':=ok.put (a:=within cv 0 (m-1)) (b:=within (IntKind.i64.wrap (cv.tdiv 8)) 0 (m-1)) ⟨by omega,by omega⟩ ⟨by omega,by omega⟩
   have hl':=putL_len L (within cv 0 (m-1)) (within (IntKind.i64.wrap (cv.tdiv 8)) 0 (m-1))
   simp [h1,h3,h5,h7,g0,g2,a1,a1',a8,a8',hcv,cInt,hsv,e6,w1,w2,hwm,lim,hq,hw]
   generalize hF:upd _ 7 _=F
   exact ih (i+1) F h' _ (by omega) (by omega) ok' g' (by rw [←hF];simp [h1]) (by rw [←hF];simp [h2]) (by rw [←hF];simp [h3]) (by rw [←hF];simp [h5]) (by rw [←hF];simp) hfin
  ·have a1':¬(i:Int)<more.length:=by omega
   have hd:(more.take 8).drop i=[]:=by rw [List.drop_eq_nil_iff];simp;omega
   rw [hd,moreL]at hfin
   simp [h1,h7,g0,a1,a1']
   exact hfin _ _ g (by simp [h2]) (by simp [h3])
theorem ul_pairs (n:Nat) (xs:List (Int×Int)):unlent (n+23) (eL false 2 ePair xs)=true:=unl_eL (fun x _=>(plain_pair x).2) _ (by omega)
theorem ecells_nmap:ecells 1 .nmap=[.nmap]:=rfl
set_option maxRecDepth 8000 in
theorem s5 (tu tm:Bool) (n:Int) (under more:List Int):pcF D t5 [.agg [.int .i64 n,eL tu 1 cInt under,eL tm 1 cInt more]]=some (.agg [.int .i64 (within n 1 7),eL false 2 ePair (graphL (within n 1 7) under more)]):=by
 obtain ⟨m,hm⟩:∃ m,within n 1 7=m:=⟨_,rfl⟩
 have hm1:=within_in n 1 7 (by decide)
 have hw:=s6 n 1 7 (by decide) (by decide) (by decide)
 rw [hm]at hm1 hw ⊢
 unfold pcF
 rw [goRun_eq _ _ _ _ (by simp [t5])]
 simp [t5,e6,hw,turn,ecells_nmap,-pcOut_some]
 generalize hF:upd _ 6 _=F
 generalize hH:Heap.push _ _=H
 refine l5a [] (fun r=>pcOut (fin [.cell 2 (some 2)] r)=_) (.int .i64 n) (eL tm 1 cInt more) tu under m hm1 (m-1).toNat 0 F H (by omega) ⟨?_,?_,⟨.nsl,?_,.nil rfl rfl⟩,?_,?_,?_,?_,?_⟩ (by rw [←hF];simp) (by rw [←hF];simp) (by rw [←hF];simp) (by rw [←hF];simp) (by rw [←hF];simp) fun F1 H1 g1 a1 a2 a3 a5=>?_
 ·rw [←hH];simp
 ·rw [←hH];simp
 ·rw [←hH];simp [treeL]
 ·rw [←hH];simp [treeL,eSet]
 ·rw [←hH];simp
 ·rw [←hH];simp
 ·rw [←hH];simp
 ·rw [←hH];simp
 have tl:=treeL_len under (m-1).toNat
 simp [t5k1,-pcOut_some]
 generalize hF2:upd _ 7 _=F2
 refine l5b [] (fun r=>pcOut (fin [.cell 2 (some 2)] r)=_) (.int .i64 n) (eL tu 1 cInt under) tm more m hm1 8 0 F2 H1 _ (by omega) (by omega) (treeL_ok under _ (by omega)) g1 (by rw [←hF2];simp [a1]) (by rw [←hF2];simp [a2]) (by rw [←hF2];simp [a3]) (by rw [←hF2];simp [a5]) (by rw [←hF2];simp) fun F3 H3 g3 b2 b3=>?_
 obtain ⟨v,g2,ho⟩:=g3.g2
 have gg1:=g3.g1
 have lim:=g3.lim
 have wf:=g3.wf
 have gn:=g3.n
 have k1:1<H3.n:=by omega
 have ws:=ho.storable
 have we:=ho.ecells
 have hr:∀o,resolve false (H3.set 1 o) 199 v=some (eL false 2 ePair (graphL m under more)):=fun o =>
  (ho.setLow wf (by decide) k1).resolve false (fun y _=>(plain_pair y).1) (by decide)
 simp [t5k0,b2,b3,g2,gg1,lim,wf,k1,ws,we,turn,hr,resultsOf,ul_pairs]
end Go.Dm.Tc
/-
TreesTells: the law's own path;what it counts.
-/
namespace Go.Dm.Tc
set_option maxRecDepth 8000 in
theorem l7 (tg t:Bool) (p:List Int) (hp:p.length≤1000000) :
  ∀(n i:Nat) (acc:List Int) (b:Int) (f:FEnv) (h:Heap),i+n=10→acc.length=i→f 0=.int .i64 b→f 1=.iptr tg [eL t 1 cInt p] 0→f 5=.int .i64 i→OwnR 0 h (f 4) 3 1 (acc.map cInt)→h.lim=0→WF h →
  pcOut (fin [.t 3] (run D 30 [.block 0,.seq t7k0] (.loop t7l0) f h))=some (eL false 1 cInt (match pathO p n b with|some l=>acc++l|none=>[])):=by
 intro n
 induction n with
 | zero =>
  intro i acc b f h hi ha h0 h1 h5 ho hlim wf
  have e1:i=10:=by omega
  subst e1
  rw [run_loop_of t7l0.eq_1]
  simp [h5,pathO,t7k0]
  rfl
 | succ n ih =>
  intro i acc b f h hi ha h0 h1 h5 ho hlim wf
  have e1:(i:Int)<10:=by omega
  have hw:IntKind.i64.wrap ((i:Int)+1)=(i:Int)+1:=wrap64 (by omega) (by omega)
  rw [run_loop_of t7l0.eq_1]
  by_cases hb:0≤b∧b<p.length
  ·obtain ⟨hj,hg⟩:=atL_at hb.1 hb.2
   rw [pathO,if_pos hb]
   obtain ⟨hb0,hb1⟩:=hb
   have hb0':¬b<0:=by omega
   have hb1':¬(p.length:Int)≤b:=by omega
   simp [h0,h1,h5,e1,hb0,hb1,hb0',hb1']
   generalize hA:appendD _ _ _ _ _ _=A
   obtain ⟨w,K,rfl,ho',hx',_⟩:=ho.push.append (lo:=0) wf.push (Nat.zero_le _) (by simp [hlim]) hA (by simp;omega) (by decide)
   clear hA
   have hKl:K.lim=0:=by rw [hx'.lim];simp [hlim]
   have hKw:=hx'.wf
   have hia:indexAddrV 1 (eL t 1 cInt p) (.int .i64 b)=some (.iptr t (ecells 1 (cInt (atL p b.toNat))) 0):=by
    rw [indexAddrV_eLm t 1 cInt p .i64 b hb0,List.getElem?_eq_getElem hj,hg];rfl
   by_cases hr:atL p b.toNat=-1
   ·have ho'':OwnR 0 K w 3 1 ((acc++[b]).map cInt):=by simpa [cInt] using ho'
    have hout:=ho''.out (k:=22) (fun y _=>(plain_cint y).1.mono (by decide)) (fun y _=>(plain_cint y).2) (by decide)
    simp [h0,h1,hia,hr,cInt,-pcOut_some]
    exact hout
   ·simp [h0,h1,h5,hia,hr,cInt,hw]
    generalize hF:upd _ 5 _=F
    rw [ih (i+1) (acc++[b]) (atL p b.toNat) F K (by omega) (by simp;omega) (by rw [←hF];simp) (by rw [←hF];simp [h1]) (by rw [←hF];simp) (by rw [←hF];simp;simpa [cInt] using ho') hKl hKw]
    cases pathO p n (atL p b.toNat)<;>simp
  ·rw [pathO,if_neg hb]
   by_cases hb0:0≤b
   ·have hb1:¬b<p.length:=fun h=>hb ⟨hb0,h⟩
    have hb0':¬b<0:=by omega
    have hb1':(p.length:Int)≤b:=by omega
    simp [h0,h1,h5,e1,hb0',hb1',hb1]
    rfl
   ·have hb0':b<0:=by omega
    simp [h0,h1,h5,e1,hb0']
    rfl
theorem s7 (tg t:Bool) (p:List Int) (b:Int) (hp:p.length≤10):pcF D t7 [.int .i64 b,.iptr tg [eL t 1 cInt p] 0]=some (eL false 1 cInt (pathP p p.length b)):=by
 rw [←pathP_room (m:=10) hp]
 unfold pcF
 rw [goRun_eq _ _ _ _ (by simp [t7])]
 simp [t7,-pcOut_some]
 generalize hF:upd _ 5 _=F
 rw [l7 tg t p (by omega) 10 0 [] b F _ (by omega) rfl (by rw [←hF];simp) (by rw [←hF];simp) (by rw [←hF];simp) (.nil (by rw [←hF];simp) rfl) (by simp) (by simp)]
 unfold pathP
 cases pathO p 10 b<;>rfl
theorem s14:pcF D t14 []=some (.bool true):=pc_run (n:=2000) (args:=[]) e14 rfl (by kernel_rfl)
def spA (m:Int) (L:List (Int×Int)) (p:List Int) (i:Nat):Bool:=decide ((p.length:Int)=m) && (List.range i).all (gGood m L p)
theorem spA_succ (m:Int) (L:List (Int×Int)) (p:List Int) (i:Nat):spA m L p (i+1)=(spA m L p i && gGood m L p i):=by
 unfold spA
 rw [List.range_succ,List.all_append,Bool.and_assoc]
 simp
theorem spA_end (m:Int) (L:List (Int×Int)) (p:List Int):spansP m L p=(spA m L p p.length && decide ((rootsA p p.length:Int)=1)):=by
 unfold spansP spA rootsP rootsA
 rw [List.take_of_length_le (Nat.le_refl _),Bool.and_comm (decide _)]
theorem once {x v:Int}:∀{l:List Int},l.Nodup→(l.filter fun u=>decide (u=x)).map (fun _=>v)=if x∈l then [v] else []
 | [],_=>rfl
 | a::l,h=>by
  rw [List.nodup_cons]at h
  have ih:=once (x:=x) (v:=v) h.2
  by_cases e:a=x
  ·subst e
   rw [if_neg h.1]at ih
   simp [ih]
  ·have:¬x=a:=fun h=>e h.symm
   simp [e,this,ih]
end Go.Dm.Tc
/-
TreesTells: the law's walk.
-/
namespace Go.Dm.Tc
theorem i3 (S:List Fr) (P:Res→Prop) (lo:Nat) (x v:Int) (l:List Int) (hl:l.length≤100) :
  ∀(rest acc:List Int) (i:Nat) (f:FEnv) (h:Heap),l.drop i=rest→acc.length+rest.length≤1000→f 11=.int .i64 x→f 15=.int .i64 v→f 53=eL false 1 cInt l→f 54=.int .i64 l.length→f 55=.int .i64 i→OwnR lo h (f 12) 3 1 (acc.map cInt)→h.lim=0→WF h→lo≤h.n →
  (∀F H,OwnR lo H (F 12) 3 1 ((acc++(rest.filter fun u=>decide (u=x)).map (fun _=>v)).map cInt)→Ext lo h H→(∀r,r≤11∨13≤r∧r≤16∨47≤r∧r≤48→F r=f r)→P (run D 133 S t3k0 F H)) →
  P (run D 133 (.block 4::.seq t3k0::S) (.loop t3l1) f h):=by
 intro rest
 induction rest with
 | nil =>
  intro acc i f h hd ha h11 h15 h53 h54 h55 ho hlim wf hlo hfin
  have hi:=drop_nil hd
  have:¬(i<l.length):=by omega
  rw [run_loop_of t3l1.eq_1]
  simp [h54,h55,this]
  exact hfin _ _ (by simpa using ho) (.refl hlo wf) fun r hr=>by
   have:¬r=56:=by omega
   simp [this]
 | cons u rest ih =>
  intro acc i f h hd ha h11 h15 h53 h54 h55 ho hlim wf hlo hfin
  obtain ⟨hi,he,hd'⟩:=drop_at hd
  simp only [List.length_cons]at ha
  have hw:IntKind.i64.wrap ((i:Int)+1)=(i:Int)+1:=wrap64 (by omega) (by omega)
  rw [run_loop_of t3l1.eq_1]
  by_cases hc:u=x
  ·subst hc
   have hf:((u::rest).filter fun y=>decide (y=u)).map (fun _=>v)=v::(rest.filter fun y=>decide (y=u)).map (fun _=>v):=by simp
   rw [hf,List.append_cons]at hfin
   simp [h11,h15,h53,h54,h55,hi,he,cInt]
   generalize hA:appendD _ _ _ _ _ _=A
   obtain ⟨w,K,rfl,ho',hx',_⟩:=ho.push.append wf.push (by simp;omega) (by simp [hlim]) hA (by simp;omega) (by decide)
   clear hA
   have hKl:K.lim=0:=by rw [hx'.lim];simp [hlim]
   have hKw:=hx'.wf
   have hKn:=hx'.le
   simp [h55,hw]
   generalize hF:upd _ 55 _=F
   refine ih (acc++[v]) (i+1) F K hd' (by simp;omega) (by rw [←hF];simp [h11]) (by rw [←hF];simp [h15]) (by rw [←hF];simp [h53]) (by rw [←hF];simp [h54]) (by rw [←hF];simp) (by rw [←hF];simp;simpa [cInt] using ho') hKl hKw hKn fun F' H' a1 a2 a3=>hfin F' H' a1 ((Ext.refl hlo wf).push.trans (hx'.trans a2)) fun r hr=>?_
   rw [a3 r hr,←hF]
   have:¬r=12∧¬r=17∧¬r=55∧¬r=56∧¬r=57∧¬r=58∧¬r=59∧¬r=60∧¬r=61∧¬r=62∧¬r=63∧¬r=64∧¬r=65∧¬r=66:=by omega
   simp [this]
  ·have hf:((u::rest).filter fun y=>decide (y=x)).map (fun _=>v)=(rest.filter fun y=>decide (y=x)).map (fun _=>v):=by simp [hc]
   rw [hf]at hfin
   simp [h11,h15,h53,h54,h55,hi,he,cInt,hc,hw]
   generalize hF:upd _ 55 _=F
   refine ih acc (i+1) F h hd' (by omega) (by rw [←hF];simp [h11]) (by rw [←hF];simp [h15]) (by rw [←hF];simp [h53]) (by rw [←hF];simp [h54]) (by rw [←hF];simp) (by rw [←hF];simp;exact ho) hlim wf hlo fun F' H' a1 a2 a3=>hfin F' H' a1 a2 fun r hr=>?_
   rw [a3 r hr,←hF]
   have:¬r=12∧¬r=17∧¬r=55∧¬r=56∧¬r=57∧¬r=58∧¬r=59∧¬r=60∧¬r=61∧¬r=62∧¬r=63∧¬r=64∧¬r=65∧¬r=66:=by omega
   simp [this]
set_option maxRecDepth 8000 in
theorem o3 (S:List Fr) (P:Res→Prop) (m x:Int) (L:List (Int×Int)) (p:List Int) (hp:p.length≤8) (hL:L.length≤1000000) (hn:∀a,(gNear m a L).length≤12) (h0:Heap) (w:DV)
  (g1:h0.get 1=some (.arr 27 2 [.agg [.int .i64 m,eL false 2 ePair L]] (some 1))) (g2:h0.get 2=some (.arr 22 1 [w] (some 1))) (ow:OwnR 3 h0 w 3 1 (p.map cInt)) (lim0:h0.lim=0) (n0:3≤h0.n) :
  ∀(n i:Nat) (f:FEnv) (h:Heap),i+n=p.length→f 7=.ptr 1 2 0 0→f 8=.ptr 2 1 0 0→f 10=.func 7 [.ptr 2 1 0 0]→f 11=.int .i64 x→OwnR h0.n h (f 12) 3 1 ((belowA p x i).map cInt)→f 13=.int .i64 (rootsA p i)→f 14=.bool (spA m L p i)→f 47=.int .i64 p.length→f 48=.int .i64 i→Ext h0.n h0 h →
  (∀F H,Ext h0.n h0 H→OwnR h0.n H (F 12) 3 1 ((belowA p x p.length).map cInt)→F 7=.ptr 1 2 0 0→F 8=.ptr 2 1 0 0→F 10=.func 7 [.ptr 2 1 0 0]→F 11=.int .i64 x→F 13=.int .i64 (rootsA p p.length)→F 14=.bool (spA m L p p.length)→P (run D 133 S t3k2 F H)) →
  P (run D 133 (.block 2::.seq t3k2::S) (.loop t3l2) f h):=by
 intro n
 induction n with
 | zero =>
  intro i f h hi h7 h8 h10 h11 o12 h13 h14 h47 h48 hx hfin
  have e1:i=p.length:=by omega
  subst e1
  rw [run_loop_of t3l2.eq_1]
  simp [h47,h48]
  exact hfin _ _ hx (by simpa using o12) (by simp [h7]) (by simp [h8]) (by simp [h10]) (by simp [h11]) (by simp [h13]) (by simp [h14])
 | succ n ih =>
  intro i f h hi h7 h8 h10 h11 o12 h13 h14 h47 h48 hx hfin
  have e1:i<p.length:=by omega
  have e1':(i:Int)<p.length:=by omega
  have G1:=(hx.get 1 (by omega)).trans g1
  have G2:=(hx.get 2 (by omega)).trans g2
  have hlim:h.lim=0:=hx.lim.trans lim0
  have hC:=s7 true true p i (by omega)
  have OW:=ow.ext hx
  have hw:IntKind.i64.wrap ((i:Int)+1)=(i:Int)+1:=wrap64 (by omega) (by omega)
  rw [run_loop_of t3l2.eq_1]
  have we:=OW.ecells
  have r1:resolve true h 199 w=some (eL true 1 cInt p):=OW.resolve true (fun y _=>(plain_cint y).1) (by decide)
  have r2:resolve true h 198 w=some (eL true 1 cInt p):=OW.resolve true (fun y _=>(plain_cint y).1) (by decide)
  simp [h7,h8,h10,h11,h47,h48,e1,e1',hC,e7,G1,G2,hlim,we,r1,r2]
  generalize hF:upd _ 55 _=F
  have hpl:=pathP_len p p.length i
  have hbl:=belowA_len p x i
  refine i3 (.block 3::.seq t3k1::.loop t3l2::.block 2::.seq t3k2::S) P h0.n x i (pathP p p.length i) (by omega) (pathP p p.length i) (belowA p x i) 0 F h rfl (by omega) (by rw [←hF];simp [h11]) (by rw [←hF];simp) (by rw [←hF];simp) (by rw [←hF];simp) (by rw [←hF];simp) (by rw [←hF];simpa using o12) hlim hx.wf hx.le fun F1 H1 o1 x1 k1=>?_
  rw [once (pathP_nodup p p.length i)]at o1
  have hbs:belowA p x i++(if x∈pathP p p.length i then [(i:Int)] else [])=belowA p x (i+1):=by
   rw [belowA_succ];split<;>simp
  rw [hbs]at o1
  have hx1:=hx.trans x1
  have G1':=(hx1.get 1 (by omega)).trans g1
  have G2':=(hx1.get 2 (by omega)).trans g2
  have hlim1:H1.lim=0:=hx1.lim.trans lim0
  have OW1:=ow.ext hx1
  have b7:F1 7=.ptr 1 2 0 0:=by rw [k1 7 (by omega),←hF];simp [h7]
  have b8:F1 8=.ptr 2 1 0 0:=by rw [k1 8 (by omega),←hF];simp [h8]
  have b10:F1 10=.func 7 [.ptr 2 1 0 0]:=by rw [k1 10 (by omega),←hF];simp [h10]
  have b11:F1 11=.int .i64 x:=by rw [k1 11 (by omega),←hF];simp [h11]
  have b13:F1 13=.int .i64 (rootsA p i):=by rw [k1 13 (by omega),←hF];simp [h13]
  have b14:F1 14=.bool (spA m L p i):=by rw [k1 14 (by omega),←hF];simp [h14]
  have b15:F1 15=.int .i64 i:=by rw [k1 15 (by omega),←hF];simp
  have b47:F1 47=.int .i64 p.length:=by rw [k1 47 (by omega),←hF];simp [h47]
  have b48:F1 48=.int .i64 i:=by rw [k1 48 (by omega),←hF];simp [h48]
  clear hF
  have we1:=OW1.ecells
  have r1':resolve true H1 199 w=some (eL true 1 cInt p):=OW1.resolve true (fun y _=>(plain_cint y).1) (by decide)
  have r2':resolve true H1 198 w=some (eL true 1 cInt p):=OW1.resolve true (fun y _=>(plain_cint y).1) (by decide)
  obtain ⟨id,sp,cap,_,hg,_,_,hia,hxi⟩:=OW1.index (i:=i) (x:=cInt (atL p i)) (by rw [List.getElem?_map,List.getElem?_eq_getElem e1,←atL_eq e1];rfl) .i64
  have hK:pcF D t8 [.agg [.int .i64 m,eL false 2 ePair L],.int .i64 i,.int .i64 (atL p i)]=some (.bool (gLink m L i (atL p i))):=s8 false m i (atL p i) L hL (hn _)
  have hs:=rootsA_succ p i e1
  have hrl:=rootsA_le p i
  have hw2:IntKind.i64.wrap ((rootsA p i:Int)+1)=(rootsA p i:Int)+1:=wrap64 (by omega) (by omega)
  have hsp:=spA_succ m L p i
  have hk:gLink m L (atL p i) i=gLink m L i (atL p i):=gLink_symm ..
  have hC':pcF D t7 [.int .i64 i,.iptr true [eL true 1 cInt p] 0]=some (eL false 1 cInt (pathP p p.length i)):=hC
  by_cases hz0:pathP p p.length i=[]
  ·have hz:(pathP p p.length i=[])=True:=eq_true hz0
   have hz1:(pathP p p.length i).length=0:=by rw [hz0];rfl
   by_cases hr:atL p i=-1
   ·rw [if_pos hr]at hs
    cases hsb:spA m L p i<;>rw [hsb]at b14
    all_goals
     simp [t3k0,t3k1,b7,b8,b10,b11,b13,b14,b15,b48,G1',G2',hlim1,we1,r1',r2',hia,hg,hxi,hr,hw2,cInt,e7,hC',hw,hz1]
     generalize hG:upd _ 48 _=G
     refine ih (i+1) G H1 (by omega) (by rw [←hG];simp [b7]) (by rw [←hG];simp [b8]) (by rw [←hG];simp [b10]) (by rw [←hG];simp [b11]) (by rw [←hG];simpa using o1) (by rw [←hG,hs];simp [b13]) (by rw [←hG,hsp,hsb];simp [gGood,hr,hk,hz,b14,hsb]) (by rw [←hG];simp [b47]) (by rw [←hG];simp) hx1 hfin
   ·rw [if_neg hr]at hs
    cases hsb:spA m L p i<;>rw [hsb]at b14
    ·simp [t3k0,t3k1,b7,b8,b10,b11,b13,b14,b15,b48,G1',G2',hlim1,we1,r1',r2',hia,hg,hxi,hr,hw2,cInt,e7,hC',hw,hz1]
     generalize hG:upd _ 48 _=G
     refine ih (i+1) G H1 (by omega) (by rw [←hG];simp [b7]) (by rw [←hG];simp [b8]) (by rw [←hG];simp [b10]) (by rw [←hG];simp [b11]) (by rw [←hG];simpa using o1) (by rw [←hG,hs];simp [b13]) (by rw [←hG,hsp,hsb];simp [gGood,hr,hk,hz,b14,hsb]) (by rw [←hG];simp [b47]) (by rw [←hG];simp) hx1 hfin
    ·cases hkb:gLink m L i (atL p i)<;>rw [hkb]at hK hk
     all_goals
      simp [t3k0,t3k1,b7,b8,b10,b11,b13,b14,b15,b48,G1',G2',hlim1,we1,r1',r2',hia,hg,hxi,hr,hw2,cInt,e7,hC',e8,hK,hw,hz1]
      generalize hG:upd _ 48 _=G
      refine ih (i+1) G H1 (by omega) (by rw [←hG];simp [b7]) (by rw [←hG];simp [b8]) (by rw [←hG];simp [b10]) (by rw [←hG];simp [b11]) (by rw [←hG];simpa using o1) (by rw [←hG,hs];simp [b13]) (by rw [←hG,hsp,hsb];simp [gGood,hr,hk,hz,b14,hsb]) (by rw [←hG];simp [b47]) (by rw [←hG];simp) hx1 hfin
  ·have hz:(pathP p p.length i=[])=False:=eq_false hz0
   have hz1:0<(pathP p p.length i).length:=List.length_pos_iff.2 hz0
   have hz1':(0:Int)<(pathP p p.length i).length:=by omega
   by_cases hr:atL p i=-1
   ·rw [if_pos hr]at hs
    cases hsb:spA m L p i<;>rw [hsb]at b14
    all_goals
     simp [t3k0,t3k1,b7,b8,b10,b11,b13,b14,b15,b48,G1',G2',hlim1,we1,r1',r2',hia,hg,hxi,hr,hw2,cInt,e7,hC',hw,hz1,hz1']
     generalize hG:upd _ 48 _=G
     refine ih (i+1) G H1 (by omega) (by rw [←hG];simp [b7]) (by rw [←hG];simp [b8]) (by rw [←hG];simp [b10]) (by rw [←hG];simp [b11]) (by rw [←hG];simpa using o1) (by rw [←hG,hs];simp [b13]) (by rw [←hG,hsp,hsb];simp [gGood,hr,hk,hz,b14,hsb]) (by rw [←hG];simp [b47]) (by rw [←hG];simp) hx1 hfin
   ·rw [if_neg hr]at hs
    cases hsb:spA m L p i<;>rw [hsb]at b14
    ·simp [t3k0,t3k1,b7,b8,b10,b11,b13,b14,b15,b48,G1',G2',hlim1,we1,r1',r2',hia,hg,hxi,hr,hw2,cInt,e7,hC',hw,hz1,hz1']
     generalize hG:upd _ 48 _=G
     refine ih (i+1) G H1 (by omega) (by rw [←hG];simp [b7]) (by rw [←hG];simp [b8]) (by rw [←hG];simp [b10]) (by rw [←hG];simp [b11]) (by rw [←hG];simpa using o1) (by rw [←hG,hs];simp [b13]) (by rw [←hG,hsp,hsb];simp [gGood,hr,hk,hz,b14,hsb]) (by rw [←hG];simp [b47]) (by rw [←hG];simp) hx1 hfin
    ·cases hkb:gLink m L i (atL p i)<;>rw [hkb]at hK hk
     all_goals
      simp [t3k0,t3k1,b7,b8,b10,b11,b13,b14,b15,b48,G1',G2',hlim1,we1,r1',r2',hia,hg,hxi,hr,hw2,cInt,e7,hC',e8,hK,hw,hz1,hz1']
      generalize hG:upd _ 48 _=G
      refine ih (i+1) G H1 (by omega) (by rw [←hG];simp [b7]) (by rw [←hG];simp [b8]) (by rw [←hG];simp [b10]) (by rw [←hG];simp [b11]) (by rw [←hG];simpa using o1) (by rw [←hG,hs];simp [b13]) (by rw [←hG,hsp,hsb];simp [gGood,hr,hk,hz,b14,hsb]) (by rw [←hG];simp [b47]) (by rw [←hG];simp) hx1 hfin
def rowL (ps:List Int) (lo hi:Int):List Int:=(ps.take 8).map fun v=>within v lo hi
theorem rowL_len (ps:List Int) (lo hi:Int):(rowL ps lo hi).length≤8:=by simp [rowL];omega
set_option maxRecDepth 8000 in
theorem p3 (S:List Fr) (P:Res→Prop) (t:Bool) (ps:List Int) (g:DO) :
  ∀(k i:Nat) (f:FEnv) (h:Heap) (w:DV),i+k=8→h.get 1=some g→h.get 2=some (.arr 22 1 [w] (some 1))→OwnR 3 h w 3 1 (((ps.take i).map fun v=>within v (-2) 7).map cInt)→h.lim=0→WF h→3≤h.n→f 1=eL t 1 cInt ps→f 7=.ptr 1 2 0 0→f 8=.ptr 2 1 0 0→f 9=.int .i64 i →
  (∀F H w,H.get 1=some g→H.get 2=some (.arr 22 1 [w] (some 1))→OwnR 3 H w 3 1 ((rowL ps (-2) 7).map cInt)→H.lim=0→WF H→3≤H.n→(F 2=f 2)→F 7=.ptr 1 2 0 0→F 8=.ptr 2 1 0 0→P (run D 133 S t3k3 F H)) →
  P (run D 133 (.block 0::.seq t3k3::S) (.loop t3l0) f h):=by
 intro k
 induction k with
 | zero =>
  intro i f h w hi g1 g2 ow lim wf hn h1 h7 h8 h9 hfin
  have e1:i=8:=by omega
  subst e1
  rw [run_loop_of t3l0.eq_1]
  by_cases a1:8<ps.length
  ·have a1':(8:Int)<ps.length:=by omega
   simp [h1,h9,a1,a1']
   exact hfin _ _ w g1 g2 ow lim wf hn (by simp) (by simp [h7]) (by simp [h8])
  ·have a1':¬(8:Int)<ps.length:=by omega
   simp [h1,h9,a1,a1']
   exact hfin _ _ w g1 g2 ow lim wf hn (by simp) (by simp [h7]) (by simp [h8])
 | succ k ih =>
  intro i f h w hi g1 g2 ow lim wf hn h1 h7 h8 h9 hfin
  have a8:i<8:=by omega
  have a8':(i:Int)<8:=by omega
  rw [run_loop_of t3l0.eq_1]
  by_cases a1:i<ps.length
  ·have a1':(i:Int)<ps.length:=by omega
   obtain ⟨cv,hcv⟩:∃ cv,ps[i]=cv:=⟨_,rfl⟩
   have w1:=s6 cv (-2) 7 (by decide) (by decide) (by decide)
   have hw:IntKind.i64.wrap ((i:Int)+1)=(i:Int)+1:=wrap64 (by omega) (by omega)
   have n1:¬1=h.n:=by omega
   have n2:¬2=h.n:=by omega
   have we:=ow.ecells
   simp [h1,h7,h8,h9,a1,a1',a8,a8',hcv,cInt,e6,w1,g1,g2,lim,wf,we]
   generalize hA:appendD _ _ _ _ _ _=A
   obtain ⟨v',K,rfl,o',x',_,_⟩:=append_frame ow.push wf.push (by simp;omega) (by simp [lim]) hA (by simp;omega) (by decide)
   clear hA
   have G1:=x'.get 1 (by decide)
   have G2:=x'.get 2 (by decide)
   have Kl:=x'.lim
   have Kw:=x'.wf
   have Kn:=x'.le
   simp [n1,n2,g1,g2,lim]at G1 G2 Kl
   have k2:2<K.n:=by omega
   have ws:=o'.storable
   have we':=o'.ecells
   simp [h8,h9,G2,Kl,Kw,k2,ws,we,we',turn,hw]
   generalize hF:upd _ 9 _=F
   have hts:(ps.take (i+1)).map (fun v=>within v (-2) 7)=(ps.take i).map (fun v=>within v (-2) 7)++[within cv (-2) 7]:=by
    rw [List.take_succ_eq_append_getElem a1,List.map_append,hcv];rfl
   refine ih (i+1) F (K.set 2 (.arr 22 1 [v'] (some 1))) v' (by omega) ?_ ?_ ?_ ?_ ?_ ?_ (by rw [←hF];simp [h1]) (by rw [←hF];simp [h7]) (by rw [←hF];simp [h8]) (by rw [←hF];simp) fun F' H' w' a1 a2 a3 a4 a5 a6 a7 a8 a9=>hfin F' H' w' a1 a2 a3 a4 a5 a6 (by rw [a7,←hF];simp) a8 a9
   ·simp [Kw,k2,G1]
   ·simp [Kw,k2]
   ·rw [hts]
    have o'':OwnR 3 K v' 3 1 (((ps.take i).map (fun v=>within v (-2) 7)++[within cv (-2) 7]).map cInt):=by simpa [cInt] using o'
    exact o''.setLow Kw (by decide) k2
   ·simp [Kl]
   ·simp [Kw]
   ·simp;omega
  ·have a1':¬(i:Int)<ps.length:=by omega
   have hr:(ps.take i).map (fun v=>within v (-2) 7)=rowL ps (-2) 7:=by
    unfold rowL;rw [List.take_of_length_le (by omega),List.take_of_length_le (by omega)]
   rw [hr]at ow
   simp [h1,h9,a1,a1']
   exact hfin _ _ w g1 g2 ow lim wf hn (by simp) (by simp [h7]) (by simp [h8])
structure GraphK where
 n:Int
 under:List Int
 more:List Int
def eGraphK (k:GraphK):DV:=.agg [.int .i64 k.n,eL false 1 cInt k.under,eL false 1 cInt k.more]
set_option maxRecDepth 8000 in
theorem s3 (k:GraphK) (ps:List Int) (b:Int):pcF D t3 [eGraphK k,eL false 1 cInt ps,.int .i64 b]=some (.bool true):=by
 obtain ⟨kn,under,more⟩:=k
 have hG:=s5 false false kn under more
 obtain ⟨m,hm⟩:∃ m,within kn 1 7=m:=⟨_,rfl⟩
 have hm1:=within_in kn 1 7 (by decide)
 rw [hm]at hm1 hG
 have ok:=graphL_ok hm1.1 under more
 have len:=graphL_len hm1.2 under more
 obtain ⟨L,hL⟩:∃ L,graphL m under more=L:=⟨_,rfl⟩
 rw [hL]at hG ok len
 have hn:=fun a=>ok.near (by omega) (by omega) a
 have hf1:∀h,resolve true h 199 (eL false 1 cInt under)=some (eL false 1 cInt under):=fun h=>flat_eL _ _ _ _ true h 199 (by decide)
 have hf2:∀h,resolve true h 199 (eL false 1 cInt more)=some (eL false 1 cInt more):=fun h=>flat_eL _ _ _ _ true h 199 (by decide)
 unfold pcF
 rw [goRun_eq _ _ _ _ (by simp [t3])]
 simp [t3,eGraphK,e5,hG,hf1,hf2,turn]
 generalize hF:upd _ 9 _=F
 generalize hH:Heap.push _ _=H
 refine p3 [] (fun r=>pcOut (fin [.t 6] r)=some (.bool true)) false ps (.arr 27 2 [.agg [.int .i64 m,eL false 2 ePair L]] (some 1)) 8 0 F H .nsl (by omega) (by rw [←hH];simp) (by rw [←hH];simp) (.nil rfl rfl) (by rw [←hH];simp) (by rw [←hH];simp) (by rw [←hH];simp) (by rw [←hF];simp) (by rw [←hF];simp) (by rw [←hF];simp) (by rw [←hF];simp) fun F1 H1 w g1 g2 ow lim wf hn1 a2 a7 a8=>?_
 have a2:F1 2=.int .i64 b:=by rw [a2,←hF];simp
 clear hF hH
 have hpl:=rowL_len ps (-2) 7
 obtain ⟨p,hp⟩:∃ p,rowL ps (-2) 7=p:=⟨_,rfl⟩
 rw [hp]at ow hpl
 have w1:=s6 b (-1) 8 (by decide) (by decide) (by decide)
 obtain ⟨x,hx⟩:∃ x,within b (-1) 8=x:=⟨_,rfl⟩
 rw [hx]at w1
 have we:=ow.ecells
 have hlv:=ow.lenV
 have hsp0:spA m L p 0=decide ((p.length:Int)=m):=by simp [spA]
 simp [t3k3,a2,a7,a8,g1,g2,lim,we,hlv,e6,w1]
 generalize hF2:upd _ 48 _=F2
 refine o3 [] (fun r=>pcOut (fin [.t 6] r)=some (.bool true)) m x L p hpl (by omega) hn H1 w g1 g2 ow lim hn1 p.length 0 F2 H1 (by omega) (by rw [←hF2];simp [a7]) (by rw [←hF2];simp [a8]) (by rw [←hF2];simp) (by rw [←hF2];simp) (.nil (by rw [←hF2];simp) rfl) (by rw [←hF2];simp [rootsA]) (by rw [←hF2,hsp0];simp;rfl) (by rw [←hF2];simp) (by rw [←hF2];simp) (.refl (Nat.le_refl _) wf) fun F3 H3 x3 o3 b7 b8 b10 b11 b13 b14=>?_
 have G1:=(x3.get 1 (by omega)).trans g1
 have G2:=(x3.get 2 (by omega)).trans g2
 have lim3:H3.lim=0:=x3.lim.trans lim
 have OW:=ow.ext x3
 have we3:=OW.ecells
 have r1:resolve true H3 199 w=some (eL true 1 cInt p):=OW.resolve true (fun y _=>(plain_cint y).1) (by decide)
 have r2:resolve true H3 198 w=some (eL true 1 cInt p):=OW.resolve true (fun y _=>(plain_cint y).1) (by decide)
 have r0:resolve true H3 200 w=some (eL true 1 cInt p):=OW.resolve true (fun y _=>(plain_cint y).1) (by decide)
 have r3:resolve true H3 200 (F3 12)=some (eL true 1 cInt (belowA p x p.length)):=o3.resolve true (fun y _=>(plain_cint y).1) (by decide)
 have hP:=s10 true p x (by omega)
 have hC:=s7 true true p x (by omega)
 have hD:=s11 true p x (by omega)
 have hB:=s12 true p x (by omega)
 have hS:=s13 false true m L p (by omega) (by omega) hn
 have hpx:=pathP_len p p.length x
 have hbl:=belowA_len p x p.length
 have q1:=s9 false false (pathP p p.length x) (pathP p p.length x) (by omega)
 have q2:=s9 false true (belowP p x) (belowA p x p.length) (by unfold belowP;unfold belowA at hbl;omega)
 have hbe:belowP p x=belowA p x p.length:=rfl
 rw [hbe]at q2 hB
 rw [spA_end]at hS
 have hw:IntKind.i64.wrap (((pathP p p.length x).length:Int)-1)=((pathP p p.length x).length:Int)-1:=wrap64 (by omega) (by omega)
 have hf3:∀h,resolve true h 199 (eL false 2 ePair L)=some (eL false 2 ePair L):=fun h=>flat_eL _ _ _ _ true h 199 (by decide)
 have hR:=s14
 cases hsb:spA m L p p.length<;>rw [hsb]at b14 hS<;>by_cases hr:(rootsA p p.length:Int)=1
 all_goals
  simp [t3k2,b7,b8,b10,b11,b13,b14,G1,G2,lim3,we3,r0,r1,r2,r3,e10,hP,e7,hC,e9,q1,q2,e11,hD,hw,e12,hB,e13,hS,hf3,hr,e14,hR]
end Go.Dm.Tc
