/- A part of the proof. -/
import Derived.Test.YtfkbogedodngeaaGreatMs2
import Derived.Test.YtfkbogedodngeaaGreatMs1
import Derived.Test.YtfkbogedodngeaaGreatMs0
set_option linter.all false
set_option maxRecDepth 100000
namespace Go.Dm.Tc
def iJ(m:Int)(L:List (Int×Int))(x:ID)(p:eD)(v:Int):FS→aL
 | .fresh=>⟨v,eO m L v,[],[],[],[]⟩
 | .has q=>⟨v,eO m L v,[⟨x,p,q⟩],[x],[],[]⟩
 | .gone _=>⟨v,eO m L v,[],[x],[],[]⟩
def Nj(x:ID)(p:eD)(k:Bool):Msg:=if k then⟨1,x,⟨0,0⟩,p,[]⟩else⟨2,x,⟨0,0⟩,[],[]⟩
variable {m:Int} {L:List (Int×Int)} {r:Int} {s:Int→FS} {W W':Int→Int→List Bool} {con:Int→Int→Nat} {d:Int→Nat} {x:ID} {p:eD}
theorem rJ(h7:m≤12)(v:Int)(t:FS):zZ (iJ m L x p v t):=by
 have:=vN m L h7 v
 cases t<;>exact⟨⟨by simp only[iJ];omega,by simp[iJ],by simp[iJ],by simp[iJ],by simp[iJ]⟩,by simp[iJ,dP],by simp[iJ,dP],rfl⟩
theorem Lc(v u:Int):lS (iJ m L x p v .fresh) u x p=(iJ m L x p v (.has u),lM (eO m L v) u 1 x.bI x.seq 0 0 p):=by
 simp[lS,iJ,dG,sW,dR]
theorem NM(v u:Int){t:FS}(h:t≠.fresh):lS (iJ m L x p v t) u x p=(iJ m L x p v t,[]):=by
 cases t with
 | fresh=>exact absurd rfl h
 | has q=>simp[lS,iJ]
 | gone q=>simp[lS,iJ]
theorem N0(v u:Int):jS (iJ m L x p v (.has u)) u x=(iJ m L x p v (.gone u),lM (eO m L v) u 2 x.bI x.seq 0 0 []):=by
 simp[jS,iJ,fK,vC]
theorem NA(v u:Int){t:FS}(h:t≠.has u):jS (iJ m L x p v t) u x=(iJ m L x p v t,[]):=by
 cases t with
 | fresh=>simp[jS,iJ,fK]
 | has q =>
  have:¬q=u:=fun e=>h (by rw[e])
  simp[jS,iJ,fK,this]
 | gone q=>simp[jS,iJ,fK]
theorem Jo(v k:Int)(x:ID)(p:eD):∀(l:List Int) (Q:ID→List Msg),l.Nodup→∀a b,pO v Q (l.map fun n=>(⟨n,k,x,⟨0,0⟩,p⟩:uZ)) ⟨a,b⟩=Q ⟨a,b⟩++(if a=v∧b∈l then[⟨k,x,⟨0,0⟩,p,[]⟩]else[])
 | [],Q,_,a,b=>by simp[pO]
 | n::l,Q,hn,a,b=>by
  obtain⟨h1,h2⟩:=List.nodup_cons.1 hn
  simp only[List.map_cons,pO]
  rw[Jo v k x p l _ h2 a b]
  by_cases e:a=v∧b=n
  ·obtain⟨rfl,rfl⟩:=e
   simp[wC,h1,FP]
  ·have e1:¬((⟨v,n⟩:ID)=⟨a,b⟩):=fun e'=>by injection e' with e1 e2;exact e ⟨e1.symm,e2.symm⟩
   have e2:(a=v∧b∈n::l)↔(a=v∧b∈l):=by
    rw[List.mem_cons]
    exact⟨fun h=>⟨h.1,h.2.resolve_left fun h3=>e ⟨h.1,h3⟩⟩,fun h=>⟨h.1,.inr h.2⟩⟩
   simp only[wC,if_neg e1,e2]
theorem pN(v u k:Int)(p:eD)(Q:ID→List Msg)(a b:Int):pO v Q (lM (eO m L v) u k x.bI x.seq 0 0 p) ⟨a,b⟩=Q ⟨a,b⟩++(if a=v∧cJ m L v b=true∧b≠u then[⟨k,x,⟨0,0⟩,p,[]⟩]else[]):=by
 unfold lM
 have IN:(eO m L v).Nodup:=(sC m L v).imp fun h e=>by omega
 rw[Jo v k ⟨x.bI,x.seq⟩ p _ Q (List.Pairwise.filter _ IN) a b]
 have:(b∈(eO m L v).filter fun n=>!decide (n=u))↔(cJ m L v b=true∧b≠u):=by
  rw[List.mem_filter,nW];simp
 simp only[this]
theorem vE(ok:bP m L)(v u k:Int)(p:eD)(hk:k≠5):∀o∈lM (eO m L v) u k x.bI x.seq 0 0 p,(v,o.to)∈bH L∧o.kind≠5:=by
 intro o ho
 unfold lM at ho
 obtain⟨n,hn,rfl⟩:=List.mem_map.1 ho
 exact⟨(Pr ok).2 (nW.1 (List.mem_filter.1 hn).1),hk⟩
theorem vF(h7:m≤12)(v u k:Int)(p:eD):(lM (eO m L v) u k x.bI x.seq 0 0 p).length≤12:=by
 unfold lM
 rw[List.length_map]
 exact Nat.le_trans (List.length_filter_le ..) (vN m L h7 v)
structure FlM(m:Int)(L:List (Int×Int))(r:Int)(x:ID)(p:eD)(B:List aL)(Q:ID→List Msg)(s:Int→FS)(W:Int→Int→List Bool)(con:Int→Int→Nat)(d:Int→Nat):Prop where
 I:FlI m L r s W con d
 len:B.length=m.toNat
 br:∀v:Nat,(v:Int)<m→B[v]?=some (iJ m L x p v (s v))
 ws:∀u v,Q ⟨u,v⟩=(W u v).map (Nj x p)
variable {B:List aL} {Q:ID→List Msg}
theorem FlM.short(F:FlM m L r x p B Q s W con d)(y:ID):(Q y).length≤2:=by
 rw[F.ws y.bI y.seq,List.length_map,F.I.wt]
 split
 ·rw[List.length_drop]
  cases s y.bI with
  | fresh=>simp[FS.sent]
  | has q=>by_cases e:y.seq=q<;>simp[FS.sent,e]<;>omega
  | gone q=>by_cases e:y.seq=q<;>simp[FS.sent,e]
 ·simp
theorem FlM.upd(F:FlM m L r x p B Q s W con d){v:Nat}(hv:(v:Int)<m){t:FS}{s':Int→FS}(hs:s'=eM s v t):∀w:Nat,(w:Int)<m→(B.set v (iJ m L x p v t))[w]?=some (iJ m L x p w (s' w)):=by
 intro w hw
 rw[hs,List.getElem?_set]
 by_cases e:v=w
 ·subst e
  have:=F.len
  rw[if_pos rfl,if_pos (by omega)]
  simp[eM]
 ·rw[if_neg e,F.br w hw]
  have:¬(w:Int)=v:=by omega
  simp[eM,this]
theorem FlM.same(F:FlM m L r x p B Q s W con d){v:Nat}(hv:(v:Int)<m):B.set v (iJ m L x p v (s v))=B:=by
 apply List.ext_getElem?
 intro w
 rw[List.getElem?_set]
 by_cases e:v=w
 ·subst e
  have:=F.len
  rw[if_pos rfl,if_pos (by omega),F.br v hv]
 ·rw[if_neg e]
theorem FlM.step(ok:bP m L)(h7:m≤12)(F:FlM m L r x p B Q s W con d){u:Int}{v:Nat}{k:Bool}{rest:List Bool}(hw:W u v=k::rest) :
  (v:Int)<m∧cJ m L u v=true∧∃ b' gI s' W' d',pcF D t63 [aW .none (iJ m L x p v (s v)),.int .i64 u,kD (Nj x p k)]=some (.tup [aW .none b',eL false 8 mZ gI,.isl false 0 []]) ∧
   (∀o∈gI,((v:Int),o.to)∈bH L∧o.kind≠5)∧gI.length≤12 ∧
   FlM m L r x p (B.set v b') (pO v (wC Q ⟨u,v⟩ (rest.map (Nj x p))) gI) s' W' (lL con u v) d'∧(NG s→NG s')∧s' r=s r:=by
 obtain⟨hl,hd,hc⟩:=F.I.head hw
 have SK:(v:Int)<m:=(dZ hl).2.1.2
 have hbare:=rJ (L:=L) (x:=x) (p:=p) h7 v (s v)
 refine⟨SK,hl,?_⟩
 have hWid:∀a b,(wC Q ⟨u,v⟩ (rest.map (Nj x p))) ⟨a,b⟩=(if a=u∧b=v then rest else W a b).map (Nj x p):=fun a b=>by
  by_cases e:a=u∧b=(v:Int)
  ·rw[if_pos e,e.1,e.2];simp[wC]
  ·have e1:¬((⟨u,v⟩:ID)=⟨a,b⟩):=fun e'=>by injection e' with e1 e2;exact e ⟨e1.symm,e2.symm⟩
   rw[if_neg e];simp only[wC,if_neg e1];exact F.ws a b
 cases k with
 | true =>
  have uC:=KE (iJ m L x p v (s v)) u x.bI x.seq 0 0 p hbare
  have hm:kD (Nj x p true)=.agg [.int .i64 1,.int .i64 x.bI,.int .i64 x.seq,.int .i64 0,.int .i64 0,fG p,.isl false 0 []]:=rfl
  rw[hm]
  by_cases hf:s v=.fresh
  ·rw[hf]at uC ⊢
   rw[Lc]at uC
   have LU:r≠v:=by
    rintro rfl
    rcases F.I.root with e|e<;>(rw[e]at hf;cases hf)
   refine⟨_,_,eM s v (.has u),_,_,uC,vE ok v u 1 p (by decide),vF h7 v u 1 p,⟨F.I.learn hw hf (W':=fun a b=>(if a=u∧b=v then rest else W a b)++(if a=v∧cJ m L v b=true∧b≠u then[true]else[])) (fun a b=>rfl),by rw[List.length_set];exact F.len,F.upd (t:=.has u) SK rfl,fun a b=>?_⟩,fun h=>h.learn v u,by simp[eM,LU]⟩
   rw[pN,hWid,List.map_append]
   congr 1
   split<;>rfl
  ·rw[NM v u hf]at uC
   refine⟨_,_,s,_,d,uC,by simp,by simp,⟨F.I.skip hw (fun _=>hf) (fun e=>by cases e) (W':=fun a b=>if a=u∧b=v then rest else W a b) (fun a b=>rfl),by rw[List.length_set];exact F.len,by rw[F.same SK];exact F.br,fun a b=>?_⟩,fun h=>h,rfl⟩
   exact hWid a b
 | false =>
  have uC:=KD (iJ m L x p v (s v)) u x.bI x.seq 0 0 [] hbare
  have hm:kD (Nj x p false)=.agg [.int .i64 2,.int .i64 x.bI,.int .i64 x.seq,.int .i64 0,.int .i64 0,fG [],.isl false 0 []]:=rfl
  rw[hm]
  by_cases hf:s v=.has u
  ·rw[hf]at uC ⊢
   rw[N0]at uC
   have hu:u≠-1:=by have:=(dZ hl).1.1;omega
   have hrest:rest=[]:=by
    rcases hc with⟨h1,_⟩|⟨_,_,h1,_⟩
    ·cases h1
    ·exact h1
   have LU:r≠v:=by
    rintro rfl
    rcases F.I.root with e|e
    ·rw[e]at hf;cases hf;exact hu rfl
    ·rw[e]at hf;cases hf
   refine⟨_,_,eM s v (.gone u),_,d,uC,vE ok v u 2 [] (by decide),vF h7 v u 2 [],⟨F.I.off (con':=lL con u v) (W':=fun a b=>(if a=u∧b=v then rest else W a b)++(if a=v∧cJ m L v b=true∧b≠u then[false]else[])) hf (fun a b=>?_) (fun _=>by rw[hw,hrest]) (fun a b=>?_),by rw[List.length_set];exact F.len,F.upd (t:=.gone u) SK rfl,fun a b=>?_⟩,fun h=>absurd hf ?_,by simp[eM,LU]⟩
   ·simp[lL,hu]
   ·simp[hu,hrest]
   ·rw[pN,hWid,List.map_append]
    congr 1
    split<;>rfl
   ·have:=F.I.only h hw
    cases this.1
  ·rw[NA v u hf]at uC
   refine⟨_,_,s,_,d,uC,by simp,by simp,⟨F.I.skip hw (fun e=>by cases e) (fun _=>hf) (W':=fun a b=>if a=u∧b=v then rest else W a b) (fun a b=>rfl),by rw[List.length_set];exact F.len,by rw[F.same SK];exact F.br,fun a b=>?_⟩,fun h=>h,rfl⟩
   exact hWid a b
variable {h:aA} {nid bid q wid:Nat} {cr:DV} {X:List kI}
theorem FlM.pick(ok:bP m L)(h7:m≤12)(hL:L.length≤1000)(F:FlM m L r x p B Q s W con d)(A:eG h nid bid q wid cr m L B Q X)(wf:WF h)(hl:h.lim≤h.n){u v:Int}{k:Bool}{rest:List Bool}(hw:W u v=k::rest) :
  ∃ H B' Q' s' W' d',fc D 22 [.ptr nid 5 0 0,.int .i64 u,.int .i64 v] h=some (.tup [.isl false 0 [],.nili],H)∧eG H nid bid q wid cr m L B' Q' X∧FlM m L r x p B' Q' s' W' (lL con u v) d'∧Upd h H [bid,q,wid] [bid,q,wid]∧(NG s→NG s')∧s' r=s r∧cJ m L u v=true:=by
 have Y6:=(F.I.head hw).1
 obtain⟨w,rfl⟩:∃ w:Nat,v=(w:Int):=⟨v.toNat,by have:=(dZ Y6).2.1;omega⟩
 obtain⟨SK,_,b',gI,s',W',d',h1,h2,h3,h4,h5,h6⟩:=F.step ok h7 hw
 have hww:(bH L).length≤1000000:=by rw[jX];omega
 obtain⟨H,e,A2,U⟩:=q22 A wf hl u w (F.br w SK) (ms:=Nj x p k) (r:=rest.map (Nj x p)) (by rw[F.ws,hw];rfl) gI h1 hww h2 (by omega) (fun y=>by have:=F.short y;omega)
 exact⟨H,_,_,s',W',d',e,A2,h4,U,h5,h6,Y6⟩
theorem FlM.start(ok:bP m L)(h7:m≤12)(hr:0≤r∧r<m){W0:ID→List Msg}(hW0:∀y,W0 y=[])(hB:∀v:Nat,(v:Int)<m→B[v]?=some (iJ m L x p v .fresh))(bY:B.length=m.toNat) :
  FlM m L r x p (B.set r.toNat (iJ m L x p r (.has (-1)))) (pO r W0 (lM (eO m L r) (-1) 1 x.bI x.seq 0 0 p)) (eM (fun _=>.fresh) r (.has (-1))) (fun u v=>if u=r∧cJ m L r v=true then[true]else[]) (fun _ _=>0) (fun _=>0):=by
 have SN:((r.toNat:Nat):Int)=r:=by omega
 refine⟨FlI.start hr,by rw[List.length_set];exact bY,fun w hw=>?_,fun u v=>?_⟩
 ·rw[List.getElem?_set]
  by_cases e:r.toNat=w
  ·have e2:(w:Int)=r:=by omega
   rw[if_pos e,if_pos (by omega)]
   simp[eM,e2]
  ·have:¬(w:Int)=r:=by omega
   rw[if_neg e,hB w hw]
   simp[eM,this]
 ·rw[pN,hW0,List.nil_append]
  by_cases e:u=r∧cJ m L r v=true
  ·have hv:=(dZ e.2).2.1
   have:v≠-1:=by omega
   rw[if_pos ⟨e.1,e.2,this⟩,if_pos e];rfl
  ·rw[if_neg (fun e'=>e ⟨e'.1,e'.2.1⟩),if_neg e];rfl
theorem FlM.advert(ok:bP m L)(h7:m≤12)(hL:L.length≤1000)(hr:0≤r∧r<m){W0:ID→List Msg}(hW0:∀y,W0 y=[])(hB:∀v:Nat,(v:Int)<m→B[v]?=some (iJ m L x p v .fresh))(bY:B.length=m.toNat)
  (A:eG h nid bid q wid cr m L B W0 X) (wf:WF h) (hl:h.lim≤h.n) {pv:DV} (hv:E1 pv p) :
  ∃ H B' Q',fc D 19 [.ptr nid 5 0 0,.int .i64 r,.agg [.int .i64 x.bI,.int .i64 x.seq],pv] h=some (.nili,H)∧eG H nid bid q wid cr m L B' Q' X∧FlM m L r x p B' Q' (eM (fun _=>.fresh) r (.has (-1))) (fun u v=>if u=r∧cJ m L r v=true then[true]else[]) (fun _ _=>0) (fun _=>0)∧Upd h H [bid,q,wid] [bid,q,wid]:=by
 obtain⟨w,rfl⟩:∃ w:Nat,r=(w:Int):=⟨r.toNat,by omega⟩
 have hf:=Lc (m:=m) (L:=L) (x:=x) (p:=p) (w:Int) (-1)
 have hww:(bH L).length≤1000000:=by rw[jX];omega
 have aZ:=vF (L:=L) (x:=x) h7 (w:Int) (-1) 1 p
 obtain⟨H,e,A2,U⟩:=WI A wf hl w (hB w hr.2) x.bI x.seq hv (rJ h7 _ _) hww (by rw[hf];exact vE ok _ _ 1 p (by decide)) (by rw[hf];simp only;omega) (fun y=>by rw[hf,hW0];simp;omega)
 rw[hf]at A2
 have:=FlM.start (x:=x) (p:=p) ok h7 hr hW0 hB bY
 exact⟨H,_,_,e,A2,this,U⟩
theorem FlM.off(ok:bP m L)(h7:m≤12)(hL:L.length≤1000)(F:FlM m L r x p B Q s W con d)(hs:s r=.has (-1))(A:eG h nid bid q wid cr m L B Q X)(wf:WF h)(hl:h.lim≤h.n) :
  ∃ H B' Q' s' W',fc D 21 [.ptr nid 5 0 0,.int .i64 r,.agg [.int .i64 x.bI,.int .i64 x.seq]] h=some (.nili,H)∧eG H nid bid q wid cr m L B' Q' X∧FlM m L r x p B' Q' s' W' con d∧Upd h H [bid,q,wid] [bid,q,wid]∧s' r=.gone (-1):=by
 have hr:=F.I.rng r (by rw[hs];simp)
 obtain⟨w,rfl⟩:∃ w:Nat,r=(w:Int):=⟨r.toNat,by omega⟩
 have hf:=N0 (m:=m) (L:=L) (x:=x) (p:=p) (w:Int) (-1)
 have hww:(bH L).length≤1000000:=by rw[jX];omega
 have aZ:=vF (L:=L) (x:=x) h7 (w:Int) (-1) 2 []
 have hb:=F.br w hr.2
 rw[hs]at hb
 obtain⟨H,e,A2,U⟩:=WH A wf hl w hb x.bI x.seq (rJ h7 _ _) hww (by rw[hf];exact vE ok _ _ 2 [] (by decide)) (by rw[hf];simp only;omega) (fun y=>by rw[hf];have:=F.short y;simp;omega)
 rw[hf]at A2
 refine⟨H,_,_,eM s w (.gone (-1)),_,e,A2,⟨F.I.off (con':=con) (W':=fun a b=>W a b++(if a=w∧cJ m L w b=true∧b≠-1 then[false]else[])) hs (fun a b=>?_) (fun h=>absurd rfl h) (fun a b=>?_),by rw[List.length_set];exact F.len,F.upd (t:=.gone (-1)) hr.2 rfl,fun a b=>?_⟩,U,by simp[eM]⟩
 ·simp
 ·simp
 ·rw[pN,F.ws,List.map_append]
  congr 1
  split<;>rfl
end Go.Dm.Tc
/-
TreesGrow: links picked until nothing waits.
-/
namespace Go.Dm.Tc
variable {m:Int} {L:List (Int×Int)} {r:Int} {s:Int→FS} {W:Int→Int→List Bool} {con:Int→Int→Nat} {d:Int→Nat} {x:ID} {p:eD}
variable {h:aA} {nid bid q wid:Nat} {cr:DV} {X:List kI} {B:List aL} {Q:ID→List Msg}
theorem Upd.ext{a b c:aA}{F G:List Nat}(u:Upd a b F G)(e:Ext b.n b c):Upd a c F G :=
 ⟨Nat.le_trans u.n e.le,e.lim.trans u.lim,e.wf,fun i hi hn=>(e.get i (Nat.lt_of_lt_of_le hi u.n)).trans (u.old i hi hn),u.fp⟩
theorem FlM.quiet(F:FlM m L r x p B Q s W con d)(ok:bP m L)(h:fY Q (bH L)=[])(u v:Int):W u v=[]:=by
 by_cases hl:cJ m L u v=true
 ·have hm:=(Pr ok).2 hl
  have:=List.filter_eq_nil_iff.1 h (u,v) hm
  rw[F.ws u v]at this
  cases hw:W u v with
  | nil=>rfl
  | cons k r=>rw[hw]at this;simp at this
 ·rw[F.I.wt,if_neg hl]
theorem FlM.busy(F:FlM m L r x p B Q s W con d){j:Nat}{u v:Int}(h:(fY Q (bH L))[j]?=some (u,v)):(u,v)∈bH L∧∃ k rest,W u v=k::rest:=by
 obtain⟨h1,h2⟩:=List.mem_filter.1 (List.mem_of_getElem? h)
 refine⟨h1,?_⟩
 rw[F.ws u v]at h2
 cases hw:W u v with
 | nil=>rw[hw]at h2;simp at h2
 | cons k r=>exact⟨k,r,rfl⟩
theorem AV(Q:ID→List Msg)(ways:List (Int×Int)):(fY Q ways).length≤ways.length:=List.length_filter_le ..
theorem FlM.sum_le(F:FlM m L r x p B Q s W con d):tH (bH L) con≤2*(bH L).length:=Lx fun w _=>F.I.con_le w.1 w.2
structure Vf(h0 K:aA)(nid bid q wid:Nat)(cr:DV)(m:Int)(L:List (Int×Int))(X:List kI)(r:Int)(x:ID)(p:eD)(B:List aL)(Q:ID→List Msg)(s:Int→FS)(W:Int→Int→List Bool)(con:Int→Int→Nat)(d:Int→Nat):Prop where
 A:eG K nid bid q wid cr m L B Q X
 F:FlM m L r x p B Q s W con d
 U:Upd h0 K [bid,q,wid] [bid,q,wid]
theorem Vf.ext{h0 K:aA}(T:Vf h0 K nid bid q wid cr m L X r x p B Q s W con d){H:aA}(e:Ext K.n K H):Vf h0 H nid bid q wid cr m L X r x p B Q s W con d:=⟨T.A.ext e,T.F,T.U.ext e⟩
set_option maxHeartbeats 4000000 in
theorem l4(P:Res→Prop)(ok:bP m L)(h7:m≤12)(hL:L.length≤30)(t:Bool)(picks:List Int)(off:Bool)(xid gid:Nat)(h0:aA)(bE:h0.lim≤h0.n)(gx:h0.get xid=some (.arr 24 2 [.agg [.int .i64 x.bI,.int .i64 x.seq]] (some 1)))(nx:xid ∉ [bid,q,wid]) :
  ∀(k i:Nat) (f:dX) (K:aA) (B:List aL) (Q:ID→List Msg) (s:Int→FS) (W:Int→Int→List Bool) (con:Int→Int→Nat) (d:Int→Nat) (done:Bool),i+k=200→f 2=eL t 1 bF picks→f 3=.bool off→f 9=.ptr gid 2 0 0→f 10=.ptr nid 5 0 0→f 12=.ptr xid 2 0 0→f 13=.int .i64 r→f 14=.bool done→f 15=.int .i64 i →
  Vf h0 K nid bid q wid cr m L X r x p B Q s W con d→tH (bH L) con+(if done then 1 else 0)=i→(done=true→off=true)→(s r=if done then .gone (-1)else .has (-1))→(off=false→NG s) →
  (∀F H B Q s W con d,F 3=.bool off→F 9=.ptr gid 2 0 0→F 10=.ptr nid 5 0 0→F 12=.ptr xid 2 0 0→F 13=.int .i64 r→Vf h0 H nid bid q wid cr m L X r x p B Q s W con d→(∀u v,W u v=[])→(s r=if off then .gone (-1)else .has (-1))→(off=false→NG s)→P (run D 173 [] Qd F H)) →
  P (run D 173 [.block 0,.seq Qd] (.loop CW) f K):=by
 intro k
 induction k with
 | zero =>
  intro i f K B Q s W con d done hi f2 f3 f9 f10 f12 f13 f14 f15 T hsum Ij hs hng dA
  have:=T.F.sum_le
  rw[jX]at this
  cases done<;>simp at hsum<;>omega
 | succ k ih =>
  intro i f K B Q s W con d done hi f2 f3 f9 f10 f12 f13 f14 f15 T hsum Ij hs hng dA
  have aZ:(i:Int)<300:=by omega
  have L7:IntKind.i64.wrap ((i:Int)+1)=(i:Int)+1:=bJ (by omega) (by omega)
  have hwl:(bH L).length≤60:=by rw[jX];omega
  obtain⟨v,H,e1,o1,x1⟩:=q59 T.A.Q T.U.wf (by omega)
  have e1:=EV T.A e1
  have T1:=T.ext x1
  have lv:=o1.lenV
  have Po:=AV Q (bH L)
  have gx1:∀{K':aA},Upd h0 K' [bid,q,wid] [bid,q,wid]→K'.get xid=some (.arr 24 2 [.agg [.int .i64 x.bI,.int .i64 x.seq]] (some 1)):=fun U=>by rw[U.old xid (aC gx) nx];exact gx
  have hlK:H.lim≤H.n:=by rw[T1.U.lim];have:=T1.U.n;omega
  have hrem:∀c:Int,bS .rem (.int .i64 c) (.int .i64 5)=some (.int .i64 (c.tmod 5)):=fun c=>by simp[bS]
  rw[aG CW.eq_1]
  by_cases hb:fY Q (bH L)=[]∧(off=false∨done=true)
  ·obtain⟨vT,SU⟩:=hb
   have hW:=T.F.quiet ok vT
   have xI:s r=if off then .gone (-1)else .has (-1):=by
    rcases SU with h1|h1
    ·cases done
     ·rw[h1];exact hs
     ·rw[Ij rfl]at h1;cases h1
    ·rw[h1]at hs;rw[Ij h1];exact hs
   rcases SU with h1|h1<;>subst h1
   ·simp[f2,f3,f10,f12,f13,f14,f15,aZ,e1,lv,vT]
    exact dA _ _ _ _ _ _ _ _ (by simp[f3]) (by simp[f9]) (by simp[f10]) (by simp[f12]) (by simp[f13]) T1 hW xI hng
   ·simp[f2,f3,f10,f12,f13,f14,f15,aZ,e1,lv,vT,Ij rfl]
    exact dA _ _ _ _ _ _ _ _ (by simp[f3]) (by simp[f9]) (by simp[f10]) (by simp[f12]) (by simp[f13]) T1 hW xI hng
  ·by_cases hq:off=true∧done=false∧(fY Q (bH L)=[]∨∃ c,picks[i]?=some c∧c.tmod 5=4)
   ·obtain⟨h1,h2,h3⟩:=hq
    subst h1;subst h2
    have hsr:s r=.has (-1):=by simpa using hs
    obtain⟨K2,B',Q',s',W',e2,A2,F2,U2,OI⟩:=T1.F.off ok h7 (by omega) hsr T1.A T1.U.wf hlK
    have gx2:=gx1 T1.U
    have T2:Vf h0 K2 nid bid q wid cr m L X r x p B' Q' s' W' con d:=⟨A2,F2,T1.U.trans U2⟩
    have hsum2:tH (bH L) con+(if true=true then 1 else 0)=i+1:=by simp at hsum;simp[hsum]
    have fin2:∀F',F' 2=eL t 1 bF picks→F' 3=.bool true→F' 9=.ptr gid 2 0 0→F' 10=.ptr nid 5 0 0→F' 12=.ptr xid 2 0 0→F' 13=.int .i64 r→F' 14=.bool true→F' 15=.int .i64 ((i+1:Nat):Int)→P (run D 173 [.block 0,.seq Qd] (.loop CW) F' K2):=fun F' g2 g3 g9 g10 g12 g13 g14 g15 =>
     ih (i+1) F' K2 _ _ _ _ _ _ true (by omega) g2 g3 g9 g10 g12 g13 g14 g15 T2 hsum2 (fun _=>rfl) (by simpa using OI) (fun e=>by cases e) dA
    have hc:(fY Q (bH L)=[]∧¬i<picks.length)∨(∃ c,picks[i]?=some c∧(fY Q (bH L)=[]∨c.tmod 5=4)):=by
     rcases h3 with h3|⟨c,h3,h4⟩
     ·by_cases hp:i<picks.length
      ·exact .inr ⟨_,List.getElem?_eq_getElem hp,.inl h3⟩
      ·exact .inl ⟨h3,hp⟩
     ·exact .inr ⟨c,h3,.inr h4⟩
    rcases hc with⟨h3,hp⟩|⟨c,SP,h3⟩
    ·simp[f2,f3,f10,f12,f13,f14,f15,aZ,e1,lv,h3,hp,gx2,e2,turn,tV,L7]
     generalize hF:upd _ 15 _=F'
     exact fin2 F' (by rw[←hF];simp[f2]) (by rw[←hF];simp[f3]) (by rw[←hF];simp[f9]) (by rw[←hF];simp[f10]) (by rw[←hF];simp[f12]) (by rw[←hF];simp[f13]) (by rw[←hF];simp) (by rw[←hF];simp)
    ·obtain⟨hp,he⟩:=List.getElem?_eq_some_iff.1 SP
     by_cases L9:fY Q (bH L)=[]
     ·simp[f2,f3,f10,f12,f13,f14,f15,aZ,e1,lv,L9,he,hp,gx2,e2,turn,tV,L7,bF]
      generalize hF:upd _ 15 _=F'
      exact fin2 F' (by rw[←hF];simp[f2]) (by rw[←hF];simp[f3]) (by rw[←hF];simp[f9]) (by rw[←hF];simp[f10]) (by rw[←hF];simp[f12]) (by rw[←hF];simp[f13]) (by rw[←hF];simp) (by rw[←hF];simp)
     ·have h4:=h3.resolve_left L9
      simp[f2,f3,f10,f12,f13,f14,f15,aZ,e1,lv,L9,he,h4,hp,hrem,gx2,e2,turn,tV,L7,bF]
      generalize hF:upd _ 15 _=F'
      exact fin2 F' (by rw[←hF];simp[f2]) (by rw[←hF];simp[f3]) (by rw[←hF];simp[f9]) (by rw[←hF];simp[f10]) (by rw[←hF];simp[f12]) (by rw[←hF];simp[f13]) (by rw[←hF];simp) (by rw[←hF];simp)
   ·have L9:fY Q (bH L)≠[]:=fun e=>by
     cases off
     ·exact hb ⟨e,.inl rfl⟩
     ·cases done
      ·exact hq ⟨rfl,rfl,.inl e⟩
      ·exact hb ⟨e,.inr rfl⟩
    have sG:0<(fY Q (bH L)).length:=List.length_pos_iff.2 L9
    have hod:∀c,picks[i]?=some c→off=true→done=false→¬c.tmod 5=4:=fun c hc h1 h2 h3=>hq ⟨h1,h2,.inr ⟨c,hc,h3⟩⟩
    have hW1:IntKind.i64.wrap (((fY Q (bH L)).length:Int)-1)=((fY Q (bH L)).length:Int)-1:=bJ (by omega) (by omega)
    have OE:=fun c=>s8 c 0 (((fY Q (bH L)).length:Int)-1) (by omega) (by omega) (by omega)
    obtain⟨c,hc⟩:∃ c,c=(picks[i]?).getD 0:=⟨_,rfl⟩
    have hrg:=iD c 0 (((fY Q (bH L)).length:Int)-1) (by omega)
    obtain⟨j,hj⟩:∃ j:Nat,cX c 0 (((fY Q (bH L)).length:Int)-1)=(j:Int):=⟨(cX c 0 (((fY Q (bH L)).length:Int)-1)).toNat,by omega⟩
    have Oc:j<(fY Q (bH L)).length:=by omega
    obtain⟨⟨u,z⟩,huz⟩:∃ y,(fY Q (bH L))[j]?=some y:=⟨_,List.getElem?_eq_getElem Oc⟩
    obtain⟨hway,kk,rest,hwk⟩:=T1.F.busy huz
    obtain⟨id,sp,cap,hv,Cz,hlid,hloid,uE,OU⟩:=o1.index (i:=j) (x:=aT (u,z)) (by rw[List.getElem?_map,huz];rfl) .i64
    have hwic:=OE c
    rw[hj]at hwic
    have hH:Ext H.n H (H.push (.arr 76 2 [.agg [.int .i64 u,.int .i64 z]] (some 1))):=(Ext.refl (Nat.le_refl _) T1.U.wf).push
    have T2:=T1.ext hH
    obtain⟨K2,B',Q',s',W',d',e2,A3,F3,U3,hng3,hsr3,Y6⟩:=T2.F.pick ok h7 (by omega) T2.A T2.U.wf (by simp;omega) hwk
    have T3:Vf h0 K2 nid bid q wid cr m L X r x p B' Q' s' W' (lL con u z) d':=⟨A3,F3,T2.U.trans U3⟩
    have hsum3:tH (bH L) (lL con u z)+(if done=true then 1 else 0)=i+1:=by rw[Jj ok.waysOf_nd hway];omega
    have fin2:∀F',F' 2=eL t 1 bF picks→F' 3=.bool off→F' 9=.ptr gid 2 0 0→F' 10=.ptr nid 5 0 0→F' 12=.ptr xid 2 0 0→F' 13=.int .i64 r→F' 14=.bool done→F' 15=.int .i64 ((i+1:Nat):Int)→P (run D 173 [.block 0,.seq Qd] (.loop CW) F' K2):=fun F' g2 g3 g9 g10 g12 g13 g14 g15 =>
     ih (i+1) F' K2 _ _ _ _ _ _ done (by omega) g2 g3 g9 g10 g12 g13 g14 g15 T3 hsum3 Ij (by rw[hsr3];exact hs) (fun e=>hng3 (hng e)) dA
    rw[hv]at e1 uE lv
    rw[List.length_map]at e1 uE lv
    have hlH:H.lim≤H.n:=hlK
    have Ih:∀id,iZ 2 1 (.ptr id 2 0 0) (.int .i64 0)=some (.ptr id 2 0 0):=fun _=>rfl
    have Ig:∀id,iZ 2 1 (.ptr id 2 0 0) (.int .i64 1)=some (.ptr id 2 0 1):=fun _=>rfl
    simp only[aT]at OU
    by_cases hp:i<picks.length
    ·obtain⟨c',SP⟩:∃ c,picks[i]?=some c:=⟨_,List.getElem?_eq_getElem hp⟩
     have rC:c=c':=by rw[hc,SP];rfl
     subst rC
     have he:=(List.getElem?_eq_some_iff.1 SP).2
     have hod1:=hod c SP
     cases off<;>cases done
     all_goals
      simp[f2,f3,f10,f12,f13,f14,f15,aZ,e1,lv,L9,he,hp,hrem,hod1,hW1,e8,hwic,uE,Cz,OU,e2,turn,oC,zK,L7,bF,hlH,T1.U.wf,Ih,Ig]
      generalize hF:upd _ 15 _=F'
      exact fin2 F' (by rw[←hF];simp[f2]) (by rw[←hF];simp[f3]) (by rw[←hF];simp[f9]) (by rw[←hF];simp[f10]) (by rw[←hF];simp[f12]) (by rw[←hF];simp[f13]) (by rw[←hF];simp[f14]) (by rw[←hF];simp)
    ·have rC:c=0:=by rw[hc,List.getElem?_eq_none (by omega)];rfl
     subst rC
     cases off<;>cases done
     all_goals
      simp[f2,f3,f10,f12,f13,f14,f15,aZ,e1,lv,L9,hp,hrem,hW1,e8,hwic,uE,Cz,OU,e2,turn,oC,zK,L7,bF,hlH,T1.U.wf,Ih,Ig]
      generalize hF:upd _ 15 _=F'
      exact fin2 F' (by rw[←hF];simp[f2]) (by rw[←hF];simp[f3]) (by rw[←hF];simp[f9]) (by rw[←hF];simp[f10]) (by rw[←hF];simp[f12]) (by rw[←hF];simp[f13]) (by rw[←hF];simp[f14]) (by rw[←hF];simp)
end Go.Dm.Tc
/-
TreesGrow: the parents in the end;the law.
-/
namespace Go.Dm.Tc
variable {m:Int} {L:List (Int×Int)} {r:Int} {s:Int→FS} {W:Int→Int→List Bool} {con:Int→Int→Nat} {d:Int→Nat} {x:ID} {p:eD}
variable {h:aA} {nid bid q wid:Nat} {cr:DV} {X:List kI} {B:List aL} {Q:ID→List Msg}
theorem XS:pcF D t24 []=some (.bool true):=RI (n:=2000) (args:=[]) e24 rfl (by kernel_rfl)
theorem _root_.Go.Dm.OwnR.mid{lo:Nat}{h:aA}{v:DV}{ety sz:Nat}{xs:List DV}(w:OwnR lo h v ety sz xs):mapId v=none:=by
 cases w with
 | nil hv hx=>subst hv;rfl
 | arr id sp cap hv hg hl hi=>subst hv;rfl
theorem _root_.Go.Dm.OwnR.resW{lo:Nat}{h:aA}{v:DV}{ety sz:Nat}{α:Type}{e:α→DV}{ys:List α}{k n:Nat}(tag:Bool)(l:Nat)(w:OwnR lo h v ety sz (ys.map e))(hf:∀y∈ys,jU k (e y))(hn:k+1≤n):Dm.resolve tag (Dm.wl h l) n v=some (eL tag sz e ys):=by
 obtain⟨m,rfl,hm⟩:=cI hn
 cases w with
 | nil hv hx =>
  subst hv
  cases ys with
  | nil=>rfl
  | cons y r=>simp at hx
 | arr id sp cap hv hg hl hi =>
  subst hv
  have wI:(ys.map e).mapM (Dm.resolve tag (Dm.wl h l) m)=some (ys.map e):=qY fun x hx=>by
   obtain⟨y,hy,rfl⟩:=List.mem_map.1 hx
   exact hf y hy tag (Dm.wl h l) m hm
  simp only[Dm.resolve,PC,hg,true_and,Nat.zero_add,List.length_append,Nat.le_add_right,if_true,List.drop_zero,List.take_left,wI]
  rfl
theorem FlM.pars(F:FlM m L r x p B Q s W con d):B.map (wR x)=(fH m).map (wE s):=by
 apply List.ext_getElem?
 intro i
 have hl:=F.len
 by_cases hi:i<m.toNat
 ·rw[List.getElem?_map,F.br i (by omega),fH,List.map_map,List.getElem?_map,List.getElem?_range hi]
  simp only[Option.map_some,Function.comp_apply,wR,wE]
  cases s (i:Int)<;>simp[iJ]
 ·rw[List.getElem?_eq_none (by simp;omega),List.getElem?_eq_none (by simp[fH];omega)]
theorem NH(h7:m≤12)(v:Int)(t:FS):zV (iJ m L x p v t)∧dP ((iJ m L x p v t).aX.map (·.id)):=⟨(rJ h7 v t).z,(rJ h7 v t).ra⟩
theorem FlM.oks(F:FlM m L r x p B Q s W con d)(h7:m≤12):∀b∈B,zV b∧dP (b.aX.map (·.id)):=by
 intro b hb
 obtain⟨i,hi,rfl⟩:=List.mem_iff_getElem.1 hb
 have hl:=F.len
 have:=F.br i (by omega)
 rw[List.getElem?_eq_getElem hi]at this
 rw[Option.some.inj this]
 exact NH h7 _ _
theorem l24(P:Res→Prop)(S:List Fr)(n lo:Nat)(v:DV)(hn:n≤100)(h:aA)(xs:List DV)(o:OwnR lo h v 3 1 xs)(hx:∀i,i<n→xs[i]?=some (.int .i64 (-2))) :
  ∀(k i:Nat) (f:dX),i+k=n→f 115=v→f 116=.int .i64 n→f 117=.int .i64 i →
  (∀F,(∀j,j<22→F j=f j)→P (run D 173 S JO F h)) →
  P (run D 173 (.block 2::.seq JO::S) (.loop JN) f h):=by
 intro k
 induction k with
 | zero =>
  intro i f hi f1 f2 f3 dA
  have:¬((i:Int)<n):=by omega
  rw[aG JN.eq_1]
  simp[f2,f3,this]
  exact dA _ fun j hj=>by simp[show j≠118 by omega]
 | succ k ih =>
  intro i f hi f1 f2 f3 dA
  have aZ:(i:Int)<n:=by omega
  have L7:IntKind.i64.wrap ((i:Int)+1)=(i:Int)+1:=bJ (by omega) (by omega)
  obtain⟨id,sp,cap,hv,hg,hl,_,uE,OU⟩:=o.index (hx i (by omega)) .i64
  rw[aG JN.eq_1]
  simp[f1,f2,f3,aZ,uE,hg,OU,L7]
  generalize hF:upd _ 117 _=F
  refine ih (i+1) F (by omega) (by rw[←hF];simp[f1]) (by rw[←hF];simp[f2]) (by rw[←hF];simp) fun F' hF'=>dA F' fun j hj=>?_
  rw[hF' j hj,←hF]
  simp[show j≠117 by omega,show j≠118 by omega,show j≠119 by omega,show j≠120 by omega,show j≠121 by omega,show j≠122 by omega,show j≠123 by omega,show j≠23 by omega]
set_option maxHeartbeats 4000000 in
theorem k4(ok:bP m L)(h7:m≤12)(hL:L.length≤30)(hc:Hg m L)(hr:0≤r∧r<m)(off:Bool)(xid gid:Nat)(h0:aA)(bE:h0.lim=0)(gx:h0.get xid=some (.arr 24 2 [.agg [.int .i64 x.bI,.int .i64 x.seq]] (some 1)))(nx:xid ∉ [bid,q,wid])
  (gg:h0.get gid=some (.arr 66 2 [.agg [.int .i64 m,eL false 2 aT L]] (some 1))) (ng:gid ∉ [bid,q,wid]) (F:dX) (H:aA) (B:List aL) (Q:ID→List Msg) (s:Int→FS) (W:Int→Int→List Bool) (con:Int→Int→Nat) (d:Int→Nat) (f3:F 3=.bool off) (f9:F 9=.ptr gid 2 0 0) (f10:F 10=.ptr nid 5 0 0) (f12:F 12=.ptr xid 2 0 0) (f13:F 13=.int .i64 r)
  (T:Vf h0 H nid bid q wid cr m L X r x p B Q s W con d) (hW:∀u v,W u v=[]) (hs:s r=if off then .gone (-1)else .has (-1)) (hng:off=false→NG s) :
  iK (fin [.t 8] (run D 173 [] Qd F H))=some (.bool true):=by
 have gxH:H.get xid=_:=(T.U.old xid (aC gx) nx).trans gx
 have ggH:H.get gid=_:=(T.U.old gid (aC gg) ng).trans gg
 have hB:(B.length:Int)=m:=by rw[T.F.len];omega
 have hlH:H.lim=0:=by rw[T.U.lim,bE]
 obtain⟨v,K,e1,o1,x1⟩:=q23 x hB (by omega) (T.F.oks h7) T.A T.U.wf (by omega) (by omega)
 rw[T.F.pars]at o1
 have T1:=T.ext x1
 have ggK:K.get gid=_:=(x1.get gid (aC ggH)).trans ggH
 have hlK:K.lim=0:=by rw[x1.lim,hlH]
 have hbusy:fY Q (bH L)=[]:=List.filter_eq_nil_iff.2 fun w _=>by rw[T.F.ws w.1 w.2,hW];simp
 obtain⟨vb,K2,e2,o2,x2⟩:=q59 T1.A.Q T1.U.wf (by rw[jX];omega)
 have e2:=EV T1.A e2
 rw[hbusy]at o2
 have lb:=o2.lenV
 have lv:=o1.lenV
 have gJ:=XS
 have hmn:((fH m).map (wE s)).length=m.toNat:=by simp[rX]
 cases off with
 | true =>
  have hsr:s r=.gone (-1):=by simpa using hs
  have gB:(fH m).map (wE s)=List.replicate m.toNat (-2):=by
   rw[List.eq_replicate_iff]
   refine⟨hmn,fun y hy=>?_⟩
   obtain⟨z,_,rfl⟩:=List.mem_map.1 hy
   exact T.F.I.none hW hsr z
  rw[gB]at o1
  have bY:(fH m).length=m.toNat:=rX m
  rw[List.length_map,hmn]at lv
  simp[Qd,f3,f10,f12,gxH,e1,lv,bY]
  generalize hF:upd _ 117 _=F1
  refine l24 (fun r=>iK (fin [.t 8] r)=some (.bool true)) [.seq PQ] m.toNat _ v (by omega) K _ o1 (fun i hi=>by rw[List.getElem?_map,List.getElem?_replicate,if_pos hi];rfl) m.toNat 0 F1 (by omega) (by rw[←hF];simp) (by rw[←hF];simp) (by rw[←hF];simp) fun F2 hF2=>?_
  have a9:F2 9=.ptr gid 2 0 0:=by rw[hF2 9 (by decide),←hF];simp[f9]
  have a10:F2 10=.ptr nid 5 0 0:=by rw[hF2 10 (by decide),←hF];simp[f10]
  have a21:F2 21=v:=by rw[hF2 21 (by decide),←hF];simp
  have Pk:((m.toNat:Nat):Int)=m:=by omega
  rw[Pk]at lv
  simp[JO,a9,a10,a21,ggK,lv,e2,lb,e24,gJ]
 | false =>
  have hsr:s r=.has (-1):=by simpa using hs
  have hN:=hng rfl
  have Tr:=T.F.I.tree hN hW hc hr
  have hSp:=fun t=>s25 false t m L ((fH m).map (wE s)) (by omega) (by omega) (ok.bC (by omega) h7)
  rw[Tr.spans]at hSp
  have hBe:=fun t=>s26 t ((fH m).map (wE s)) r (by omega)
  have hBl:=Tr.belowAll
  rw[hmn]at hBl
  have o12:=o1.ext x2
  have lv2:=o12.lenV
  have ggK2:K2.get gid=_:=(x2.get gid (aC ggK)).trans ggK
  have Pk:((m.toNat:Nat):Int)=m:=by omega
  rw[List.length_map,hmn,Pk]at lv lv2
  have SN:((r.toNat:Nat):Int)=r:=by omega
  have hp0:wE s r=-1:=by unfold wE;rw[hsr]
  obtain⟨id,sp,cap,hv,Cz,hlid,_,uE,OU⟩:=o12.index (i:=r.toNat) (x:=.int .i64 (-1)) (by
   rw[List.getElem?_map,List.getElem?_map,fH,List.getElem?_map,List.getElem?_range (by omega)]
   simp only[Option.map_some,SN,hp0];rfl) .i64
  rw[SN]at uE
  rw[List.map_map]at OU
  have q2:resolve true K2 200 v=_:=o12.resolve (n:=200) true (fun y _=>(dD y).1) (by decide)
  have q3:∀j,resolve true (wl K2 j) 200 v=_:=fun j=>o12.resW (n:=200) true j (fun y _=>(dD y).1) (by decide)
  have IP:max m 0=m:=by omega
  simp[Qd,PQ,f3,f9,f10,f12,f13,gxH,ggK,ggK2,uE,Cz,OU,e1,lv,e2,lb,lv2,e25,hSp,q2,q3,e26,hBe,hBl,e24,gJ,o2.mid,o12.mid,IP]
theorem KZ{n:Nat}{v:Nat}(h:v<n):(Fi m L n)[v]?=some (iJ m L x p v .fresh):=by
 unfold Fi
 rw[List.getElem?_map,List.getElem?_range h];rfl
set_option maxHeartbeats 4000000 in
theorem s4(k:Ph)(a:Int)(picks:List Int)(off:Bool):pcF D t4 [vV k,.int .i64 a,eL false 1 bF picks,.bool off]=some (.bool true):=by
 obtain⟨m,hm⟩:∃ m,m=cX k.n 1 7:=⟨_,rfl⟩
 have hrg:=iD k.n 1 7 (by decide)
 rw[←hm]at hrg
 obtain⟨L,hL⟩:∃ L,L=sJ m k.under k.more:=⟨_,rfl⟩
 have ok:bP m L:=by rw[hL];exact Z4 hrg.1 _ _
 have hLl:L.length≤14:=by rw[hL];exact Zr hrg.2 _ _
 have hc:Hg m L:=by rw[hL];exact Th _ _
 have gB:BP m L:=by rw[hL];exact Zs hrg.1 _ _
 have hG:=s17 false false k.n k.under k.more
 rw[←hm,←hL]at hG
 obtain⟨r,hr⟩:∃ r,r=cX a 0 (m-1):=⟨_,rfl⟩
 have SN:=iD a 0 (m-1) (by omega)
 rw[←hr]at SN
 have hW:=s8 a 0 (m-1) (by omega) (by omega) (by omega)
 rw[←hr]at hW
 have hwm:IntKind.i64.wrap (m-1)=m-1:=bJ (by omega) (by omega)
 unfold pcF
 rw[aM _ _ _ _ (by simp[t4])]
 simp[t4,vV,e17,hG]
 generalize hH0:aA.push _ _=H0
 have h0n:H0.n=2:=by rw[←hH0];simp
 have h0l:H0.lim=0:=by rw[←hH0];simp
 have h0w:WF H0:=by rw[←hH0];simp
 have h01:H0.get 1=some (.arr 66 2 [.agg [.int .i64 m,eL false 2 aT L]] (some 1)):=by rw[←hH0];simp
 obtain⟨bid,H1,e1,A1,x1,hb⟩:=q18 false ok hrg.1 (by omega) (by omega) gB H0 h0w (by omega)
 have l1:H1.lim=0:=by rw[x1.lim,h0l]
 have lnid:=aC A1.gn
 have lbid:bid<H1.n:=by obtain⟨sp,cap,g⟩:=A1.gb;exact aC g
 have lq:=aC A1.Q.gq
 have lw:H0.n+2<H1.n:=by obtain⟨ms,g,_⟩:=A1.Q.gw;exact aC g
 have g11:H1.get 1=_:=(x1.get 1 (by omega)).trans h01
 have w1:=x1.wf
 have xp:Ext H1.n H1 (H1.push (.arr 24 2 [.agg [.int .i64 4,.int .i64 2]] (some 1))):=(Ext.refl (Nat.le_refl _) w1).push
 obtain⟨H2,B',Q',e2,A2,F2,U2⟩:=FlM.advert (r:=r) (x:=⟨4,2⟩) (p:=[]) ok (by omega) (by omega) (by omega) (fun _=>rfl) (fun v hv=>KZ (by omega)) (Fh m L m.toNat) (A1.ext xp) xp.wf (by simp;omega) (.inl ⟨rfl,rfl⟩)
 have gx2:H2.get H1.n=_:=(U2.old H1.n (by simp) (by simp;omega)).trans (show(H1.push (.arr 24 2 [.agg [.int .i64 4,.int .i64 2]] (some 1))).get H1.n=some (.arr 24 2 [.agg [.int .i64 4,.int .i64 2]] (some 1)) by simp)
 have g12:H2.get 1=_:=(U2.old 1 (by simp;omega) (by simp;omega)).trans ((xp.get 1 (by omega)).trans g11)
 have n1:¬1=H1.n:=by omega
 have l2:H2.lim=0:=by rw[U2.lim];exact l1
 simp[e1,oC,zK,g11,n1,e8,hwm,hW,w1,l1,e2,tV]
 generalize hF:upd _ 15 _=F
 refine l4 (fun r=>iK (fin [.t 8] r)=some (.bool true)) (x:=⟨4,2⟩) (p:=[]) ok (by omega) (by omega) false picks off H1.n 1 H2 (by omega) gx2 (by simp;omega) 200 0 F H2 B' Q' _ _ _ _ false (by omega) (by rw[←hF];simp) (by rw[←hF];simp) (by rw[←hF];simp) (by rw[←hF];simp) (by rw[←hF];simp) (by rw[←hF];simp) (by rw[←hF];simp) (by rw[←hF];simp) ⟨A2,F2,Upd.refl U2.wf _⟩ ?_ (fun e=>by cases e) (by simp[eM]) (fun _=>NG.start r) ?_
 ·have:tH (bH L) (fun _ _=>0)≤0*(bH L).length:=Lx fun _ _=>Nat.le_refl _
  simp at this ⊢;omega
 ·intro F3 H3 B3 Q3 s3 W3 c3 d3 a3 a9 a10 a12 a13 T3 hq3 hs3 hn3
  exact k4 ok (by omega) (by omega) hc (by omega) off H1.n 1 H2 l2 gx2 (by simp;omega) g12 (by simp;omega) F3 H3 B3 Q3 s3 W3 c3 d3 a3 a9 a10 a12 a13 T3 hq3 hs3 hn3
end Go.Dm.Tc
