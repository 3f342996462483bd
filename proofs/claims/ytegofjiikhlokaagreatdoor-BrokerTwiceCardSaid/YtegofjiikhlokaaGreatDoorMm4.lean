/- A part of the proof. -/
import Derived.Test.YtegofjiikhlokaaGreatDoorMm3
import Derived.IntWalk
set_option linter.all false
namespace Go.Dm
abbrev Dr:=aN→Env→aA→Res
abbrev jB:=Nat→List DV→aA→Option (DV×aA)
def tI(r1 r2:Dr):Prop:=∀c env h e cJ h',r1 c env h=.ok e cJ h'→r2 c env h=.ok e cJ h'
def Bq(c1 c2:jB):Prop:=∀f args h r,c1 f args h=some r→c2 f args h=some r
theorem tI.refl(r:Dr):tI r r:=fun _ _ _ _ _ _ h=>h
theorem tI.trans{a b c:Dr}(h:tI a b)(g:tI b c):tI a c:=fun x y z e u v k=>g _ _ _ _ _ _ (h x y z e u v k)
theorem wZ{c1 c2:jB}(hc:Bq c1 c2){o:DOp}{env:Env}{h:aA}{r:DV×aA}(hs:cC c1 o env h=some r):cC c2 o env h=some r:=by
 cases o
 case call f args =>
  simp only[cC]at hs ⊢
  split at hs
  ·exact hc _ _ _ _ hs
  ·cases hs
 all_goals exact hs
theorem FK{c1 c2:jB}(hc:Bq c1 c2){l:Nat}{o:DOp}{env:Env}{h:aA}{r:DV×aA}(hs:oG c1 l o env h=some r):oG c2 l o env h=some r:=by
 unfold oG at hs ⊢
 split at hs
 ·rename_i v h' h1
  rw[wZ hc h1];exact hs
 ·cases hs
theorem vG(c:jB)(r:Nat)(L:dE)(o:DOp)(env:Env)(h:aA)(x:DV×aA×dE):tZ c r L o env h≠some x:=by
 intro hs
 unfold tZ at hs
 split at hs
 ·split at hs
  ·split at hs
   ·rename_i lA;exact absurd lA.1 (by decide)
   ·cases hs
  ·cases hs
 ·cases hs
theorem Gh{c1 c2:jB}(hc:Bq c1 c2){l q:Nat}{L:dE}{o:DOp}{env:Env}{h:aA}{r:DV×aA×dE}(hs:dO c1 l q L o env h=some r):dO c2 l q L o env h=some r:=by
 unfold dO at hs ⊢
 split at hs
 ·exact hs
 ·split at hs
  ·rename_i v h' h1
   rw[FK hc h1];exact hs
  ·exact absurd hs (vG _ _ _ _ _ _ _)
theorem Ek{c1 c2:jB}(hc:Bq c1 c2):∀(ops:List aZ) {env:Env} {h:aA} {r:Env×aA},iX c1 ops env h=some r→iX c2 ops env h=some r:=by
 intro ops
 induction ops with
 | nil=>intro env h r hs;exact hs
 | cons o ops ih =>
  intro env h r hs
  simp only[iX]at hs ⊢
  split at hs
  ·split at hs
   ·rename_i v h' h1
    rw[wZ hc h1];exact ih hs
   ·cases hs
  ·exact ih hs
  ·cases hs
theorem vC{c1 c2:jB}(hc:Bq c1 c2):∀(ops:List aZ) {env:Env} {hs:List aA} {L:dE} {r:Env×aA},eI c1 ops env hs L=some r→eI c2 ops env hs L=some r:=by
 intro ops
 induction ops with
 | nil=>intro env h L r hs;exact hs
 | cons o ops ih =>
  intro env hs L r he
  cases hs with
  | nil=>simp[eI]at he
  | cons h hs =>
   simp only[eI]at he ⊢
   split at he
   ·cases he
   ·split at he
    ·split at he
     ·rename_i tA
      rw[if_pos tA]
      split at he
      ·split at he
       ·exact ih he
       ·cases he
      ·cases he
     ·cases he
    ·split at he
     ·rename_i v h' h1
      rw[wZ hc h1];exact ih he
     ·cases he
    ·split at he
     ·split at he
      ·rename_i v h' L' h1
       rw[Gh hc h1];exact ih he
      ·cases he
     ·cases he
   ·exact ih he
def iT(run:Dr)(df:aQ)(args:List DV)(h:aA):Option (DV×aA) :=
 match run df.body (args++List.replicate (df.ntmps-args.length) cF) h with
 | .ok (.exit _) _ _=>none
 | .ok _ env h'=>match aI h' env df.results with
  | some v=>some (v,h')
  | none=>none
 | .fail=>none
theorem sB{r1 r2:Dr}(hr:tI r1 r2){df:aQ}{args:List DV}{h:aA}{r:DV×aA}(hs:iT r1 df args h=some r):iT r2 df args h=some r:=by
 unfold iT at hs ⊢
 split at hs
 ·cases hs
 ·rename_i e env h' eG h1
  rw[hr _ _ _ _ _ _ h1]
  cases e with
  | exit id=>exact absurd rfl (eG id)
  | normal=>exact hs
  | ret=>exact hs
 ·cases hs
def gG(run:Dr)(df:aQ)(rest:List DV)(id sz off len ety:Nat)(xs:List DV)(h:aA)(e:Nat)(cap:Option Nat):Option (List DV) :=
 nC h ety sz (iT run df (.sl h.n sz off len::rest) {(h.set id .dead).push (.arr ety sz (xs++List.replicate e .unk) cap)with lim:=h.n})
theorem qZ{r1 r2:Dr}(hr:tI r1 r2){df:aQ}{rest:List DV}{id sz off len ety:Nat}{xs:List DV}{h:aA}{e:Nat}{cap:Option Nat}{l:List DV}(hs:gG r1 df rest id sz off len ety xs h e cap=some l) :
  gG r2 df rest id sz off len ety xs h e cap=some l:=by
 unfold gG at hs ⊢
 cases hg:iT r1 df (.sl h.n sz off len::rest) {(h.set id .dead).push (.arr ety sz (xs++List.replicate e .unk) cap)with lim:=h.n} with
 | none=>rw[hg]at hs;simp[nC]at hs
 | some r=>rw[sB hr hg,←hg];exact hs
def kS(run:Dr)(df:aQ)(rest:List DV)(id sz off len ety:Nat)(xs:List DV)(h:aA):Option (DV×aA) :=
 match gG run df rest id sz off len ety xs h ((rest.map wO).foldl (·+·) 0) none with
 | some l=>if(List.range ((rest.map wO).foldl (·+·) 0)).all (fun e=>match gG run df rest id sz off len ety xs h e (some (xs.length+e))with|some l'=>rK l l'|none=>false)=true then
   some (.sl h.n sz 0 l.length,(h.set id .dead).push (.arr ety sz l none))else none
 | none=>none
theorem Vr{r1 r2:Dr}(hr:tI r1 r2){df:aQ}{rest:List DV}{id sz off len ety:Nat}{xs:List DV}{h:aA}{r:DV×aA}(hs:kS r1 df rest id sz off len ety xs h=some r) :
  kS r2 df rest id sz off len ety xs h=some r:=by
 unfold kS at hs ⊢
 split at hs
 ·rename_i l hl
  split at hs
  ·rename_i lA
   rw[qZ hr hl]
   simp only
   rw[if_pos]
   ·exact hs
   ·refine List.all_eq_true.2 fun e he=>?_
    have:=List.all_eq_true.1 lA e he
    split at this
    ·rename_i l' Kn
     rw[qZ hr Kn];exact this
    ·cases this
  ·cases hs
 ·cases hs
def dU(run:Dr)(df:aQ)(args:List DV)(h:aA):Option (DV×aA) :=
 match df.mode with
 | .full=>iT run df args h
 | .fresh=>match iT run df args {h with lim:=h.n} with
  | some (v,h')=>some (v,{h' with lim:=h.lim})
  | none=>none
 | .pure=>match args.mapM (resolve true h cY)with
  | some ds=>match iT run df ds {objs:=[],n:=0,lim:=0} with
   | some (v,h')=>match resolve false h' cY v with
    | some d=>if bI cY d then some (d,h)else none
    | none=>none
   | none=>none
  | none=>none
 | .split=>match args with
  | .sl id sz off len::rest=>match h.get id with
   | some (.arr ety eM xs none)=>if sz=eM∧h.lim≤id then kS run df rest id sz off len ety xs h else none
   | _=>iT run df args h
  | _=>iT run df args h
 | .frz=>match vJ jE h args with
  | some (as,h1)=>match as.mapM (resolve true h1 cY)with
   | some ds=>match iT run df ds {objs:=[],n:=0,lim:=0} with
    | some (v,h')=>match resolve false h' cY v with
     | some d=>if bI cY d then some (d,h1)else none
     | none=>none
    | none=>none
   | none=>none
  | none=>none
theorem xO(run:Dr)(D:cX)(f:Nat)(args:List DV)(h:aA) :
  enter run D f args h=match D.hook f with
   | some hk=>hk h args
   | none=>match D.fn f with
    | none=>none
    | some df=>dU run df args h:=by
 unfold enter
 cases D.hook f with
 | some hk=>rfl
 | none =>
  cases D.fn f with
  | none=>rfl
  | some df =>
   simp only
   unfold dU
   cases df.mode<;>rfl
theorem N0{r1 r2:Dr}(hr:tI r1 r2){df:aQ}{args:List DV}{h:aA}{r:DV×aA}(hs:dU r1 df args h=some r):dU r2 df args h=some r:=by
 unfold dU at hs ⊢
 split at hs
 ·exact sB hr hs
 ·split at hs
  ·rename_i v h' h1
   rw[sB hr h1];exact hs
  ·cases hs
 ·split at hs
  ·split at hs
   ·rename_i h1
    rw[sB hr h1];exact hs
   ·cases hs
  ·cases hs
 ·split at hs
  ·split at hs
   ·split at hs
    ·rename_i hc
     rw[if_pos hc]
     exact Vr hr hs
    ·cases hs
   ·rename_i eG
    exact sB hr hs
  ·exact sB hr hs
 ·split at hs
  ·split at hs
   ·split at hs
    ·rename_i h1
     rw[sB hr h1];exact hs
    ·cases hs
   ·cases hs
  ·cases hs
theorem mW{r1 r2:Dr}(hr:tI r1 r2)(D:cX):Bq (enter r1 D) (enter r2 D):=by
 intro f args h r hs
 rw[xO]at hs ⊢
 split at hs
 ·exact hs
 ·split at hs
  ·cases hs
  ·exact N0 hr hs
theorem Th(D:cX):∀n,tI (eK D n) (eK D (n+1)):=by
 intro n
 induction n with
 | zero=>intro c env h e cJ h' he;cases he
 | succ n ih =>
  intro c env h e cJ h' he
  cases c<;>unfold eK at he<;>unfold eK<;>simp only at he ⊢
  case skip=>exact he
  case exit=>exact he
  case ret=>exact he
  case seq a b =>
   split at he
   ·rename_i h1
    rw[ih _ _ _ _ _ _ h1];exact ih _ _ _ _ _ _ he
   ·rename_i eG
    rw[ih _ _ _ _ _ _ he]
    cases e with
    | normal=>exact absurd he (eG _ _)
    | _=>rfl
  case cond c a b =>
   split at he
   ·exact ih _ _ _ _ _ _ he
   ·exact ih _ _ _ _ _ _ he
   ·cases he
  case block id b =>
   split at he
   ·rename_i h1
    rw[ih _ _ _ _ _ _ h1];exact he
   ·rename_i eG
    rw[ih _ _ _ _ _ _ he]
    cases e with
    | exit i=>exact absurd he (eG _ _ _)
    | _=>rfl
  case loop b =>
   split at he
   ·rename_i h1
    rw[ih _ _ _ _ _ _ h1];exact ih _ _ _ _ _ _ he
   ·rename_i eG
    rw[ih _ _ _ _ _ _ he]
    cases e with
    | normal=>exact absurd he (eG _ _)
    | _=>rfl
  case region ops =>
   split at he
   ·rename_i h1
    rw[Ek (mW ih D) _ h1];exact he
   ·cases he
  case draw ops =>
   split at he
   ·rename_i h1
    rw[vC (mW ih D) _ h1];exact he
   ·cases he
theorem jR(D:cX){n m:Nat}(h:n≤m):tI (eK D n) (eK D m):=by
 induction h with
 | refl=>exact .refl _
 | step _ ih=>exact ih.trans (Th D _)
open Classical in
noncomputable def ev(D:cX):Dr:=fun c env h =>
 if hx:∃ x:Nat×Ex×Env×aA,eK D x.1 c env h=.ok x.2.1 x.2.2.1 x.2.2.2 then .ok hx.choose.2.1 hx.choose.2.2.1 hx.choose.2.2.2 else .fail
theorem fM{D:cX}{c:aN}{env:Env}{h:aA}{e:Ex}{cJ:Env}{h':aA}:ev D c env h=.ok e cJ h'↔∃ n,eK D n c env h=.ok e cJ h':=by
 unfold ev
 constructor
 ·intro hs
  split at hs
  ·rename_i hx
   have:=hx.choose_spec
   exact⟨_,this.trans hs⟩
  ·cases hs
 ·rintro⟨n,hn⟩
  have hx:∃ x:Nat×Ex×Env×aA,eK D x.1 c env h=.ok x.2.1 x.2.2.1 x.2.2.2:=⟨⟨n,e,cJ,h'⟩,hn⟩
  rw[dif_pos hx]
  have h1:=jR D (Nat.le_max_left n hx.choose.1) _ _ _ _ _ _ hn
  have h2:=jR D (Nat.le_max_right n hx.choose.1) _ _ _ _ _ _ hx.choose_spec
  rw[h1]at h2
  exact h2.symm
theorem Lj(D:cX)(n:Nat):tI (eK D n) (ev D):=fun _ _ _ _ _ _ h=>fM.2 ⟨n,h⟩
theorem yH{a b:Res}(h:∀e env h,a=.ok e env h↔b=.ok e env h):a=b:=by
 cases a with
 | fail=>cases b with
  | fail=>rfl
  | ok e env h0=>exact((h e env h0).2 rfl)
 | ok e env h0=>exact((h e env h0).1 rfl).symm
noncomputable def fc(D:cX):jB:=enter (ev D) D
theorem lP{D:cX}{df:aQ}{args:List DV}{h:aA}{r:DV×aA}(hs:iT (ev D) df args h=some r):∃ n,iT (eK D n) df args h=some r:=by
 cases hv:ev D df.body (args++List.replicate (df.ntmps-args.length) cF) h with
 | fail=>unfold iT at hs;rw[hv]at hs;cases hs
 | ok e env h' =>
  obtain⟨n,hn⟩:=fM.1 hv
  refine⟨n,?_⟩
  unfold iT at hs ⊢
  rw[hv]at hs
  rw[hn]
  exact hs
theorem Cf{D:cX}{df:aQ}{rest:List DV}{id sz off len ety:Nat}{xs:List DV}{h:aA}{e:Nat}{cap:Option Nat}{l:List DV}(hs:gG (ev D) df rest id sz off len ety xs h e cap=some l) :
  ∃ n,gG (eK D n) df rest id sz off len ety xs h e cap=some l:=by
 unfold gG at hs
 cases hg:iT (ev D) df (.sl h.n sz off len::rest) {(h.set id .dead).push (.arr ety sz (xs++List.replicate e .unk) cap)with lim:=h.n} with
 | none=>rw[hg]at hs;simp[nC]at hs
 | some r =>
  obtain⟨n,hn⟩:=lP hg
  refine⟨n,?_⟩
  unfold gG
  rw[hn,←hg];exact hs
theorem Iz{D:cX}{df:aQ}{rest:List DV}{id sz off len ety:Nat}{xs:List DV}{h:aA}{r:DV×aA}(hs:kS (ev D) df rest id sz off len ety xs h=some r) :
  ∃ n,kS (eK D n) df rest id sz off len ety xs h=some r:=by
 unfold kS at hs
 split at hs
 ·rename_i l hl
  split at hs
  ·rename_i lA
   obtain⟨n0,hn0⟩:=Cf hl
   have many:∀es:List Nat,(es.all fun e=>match gG (ev D) df rest id sz off len ety xs h e (some (xs.length+e))with|some l'=>rK l l'|none=>false)=true →
     ∃ n,(es.all fun e=>match gG (eK D n) df rest id sz off len ety xs h e (some (xs.length+e))with|some l'=>rK l l'|none=>false)=true:=by
    intro es
    induction es with
    | nil=>intro _;exact⟨0,rfl⟩
    | cons e es ih =>
     intro ha
     simp only[List.all_cons,Bool.and_eq_true]at ha
     obtain⟨n1,h1⟩:=ih ha.2
     have h2:=ha.1
     split at h2
     ·rename_i l' Kn
      obtain⟨n2,h3⟩:=Cf Kn
      refine⟨max n1 n2,?_⟩
      simp only[List.all_cons,Bool.and_eq_true]
      refine⟨by rw[qZ (jR D (Nat.le_max_right n1 n2)) h3];exact h2,List.all_eq_true.2 fun e he=>?_⟩
      have:=List.all_eq_true.1 h1 e he
      split at this
      ·rename_i l2 P1
       rw[qZ (jR D (Nat.le_max_left n1 n2)) P1];exact this
      ·cases this
     ·cases h2
   obtain⟨n1,AC⟩:=many _ lA
   refine⟨max n0 n1,?_⟩
   unfold kS
   rw[qZ (jR D (Nat.le_max_left n0 n1)) hn0]
   simp only
   rw[if_pos]
   ·exact hs
   ·refine List.all_eq_true.2 fun e he=>?_
    have:=List.all_eq_true.1 AC e he
    split at this
    ·rename_i l2 P1
     rw[qZ (jR D (Nat.le_max_right n0 n1)) P1];exact this
    ·cases this
  ·cases hs
 ·cases hs
theorem My{D:cX}{df:aQ}{args:List DV}{h:aA}{r:DV×aA}(hs:dU (ev D) df args h=some r):∃ n,dU (eK D n) df args h=some r:=by
 unfold dU at hs
 split at hs
 ·rename_i hm
  obtain⟨n,hn⟩:=lP hs
  exact⟨n,by unfold dU;rw[hm];exact hn⟩
 ·rename_i hm
  split at hs
  ·rename_i v h' h1
   obtain⟨n,hn⟩:=lP h1
   exact⟨n,by unfold dU;rw[hm];simp only;rw[hn];exact hs⟩
  ·cases hs
 ·rename_i hm
  split at hs
  ·rename_i ds Gb
   split at hs
   ·rename_i v h' h1
    obtain⟨n,hn⟩:=lP h1
    exact⟨n,by unfold dU;rw[hm];simp only;rw[Gb];simp only;rw[hn];exact hs⟩
   ·cases hs
  ·cases hs
 ·rename_i hm
  split at hs
  ·rename_i id sz off len rest
   split at hs
   ·rename_i ety eM xs hg
    split at hs
    ·rename_i hc
     obtain⟨n,hn⟩:=Iz hs
     exact⟨n,by unfold dU;rw[hm];simp only;rw[hg];simp only;rw[if_pos hc];exact hn⟩
    ·cases hs
   ·rename_i eG
    obtain⟨n,hn⟩:=lP hs
    refine⟨n,?_⟩
    unfold dU
    rw[hm]
    simp only
    exact hn
  ·rename_i eG
   obtain⟨n,hn⟩:=lP hs
   refine⟨n,?_⟩
   unfold dU
   rw[hm]
   simp only
   exact hn
 ·rename_i hm
  split at hs
  ·rename_i as h1 ea
   split at hs
   ·rename_i ds Gb
    split at hs
    ·rename_i v h' h2
     obtain⟨n,hn⟩:=lP h2
     exact⟨n,by unfold dU;rw[hm];simp only;rw[ea];simp only;rw[Gb];simp only;rw[hn];exact hs⟩
    ·cases hs
   ·cases hs
  ·cases hs
theorem Tf{D:cX}{f:Nat}{args:List DV}{h:aA}{r:DV×aA}:fc D f args h=some r↔∃ n,Zn D n f args h=some r:=by
 constructor
 ·intro hs
  unfold fc at hs
  rw[xO]at hs
  split at hs
  ·rename_i hk hh
   exact⟨0,by unfold Zn;rw[xO,hh];exact hs⟩
  ·rename_i hh
   split at hs
   ·cases hs
   ·rename_i df hdf
    obtain⟨n,hn⟩:=My hs
    exact⟨n,by unfold Zn;rw[xO,hh,hdf];exact hn⟩
 ·rintro⟨n,hn⟩
  exact mW (Lj D n) D f args h r hn
theorem Ly(D:cX)(n:Nat):Bq (enter (eK D n) D) (fc D):=mW (Lj D n) D
theorem wY{D:cX}{o:DOp}{env:Env}{h:aA}{r:DV×aA}(hs:cC (fc D) o env h=some r):∃ n,cC (enter (eK D n) D) o env h=some r:=by
 cases o
 case call f args =>
  simp only[cC]at hs ⊢
  split at hs
  ·exact Tf.1 hs
  ·cases hs
 all_goals exact⟨0,hs⟩
theorem Sz{D:cX}{l:Nat}{o:DOp}{env:Env}{h:aA}{r:DV×aA}(hs:oG (fc D) l o env h=some r):∃ n,oG (enter (eK D n) D) l o env h=some r:=by
 unfold oG at hs
 split at hs
 ·rename_i v h' h1
  obtain⟨n,hn⟩:=wY h1
  exact⟨n,by unfold oG;rw[hn];exact hs⟩
 ·cases hs
theorem Lt{D:cX}{l q:Nat}{L:dE}{o:DOp}{env:Env}{h:aA}{r:DV×aA×dE}(hs:dO (fc D) l q L o env h=some r):∃ n,dO (enter (eK D n) D) l q L o env h=some r:=by
 unfold dO at hs
 split at hs
 ·rename_i id hp
  exact⟨0,by unfold dO;rw[hp];exact hs⟩
 ·rename_i hp
  split at hs
  ·rename_i v h' h1
   obtain⟨n,hn⟩:=Sz h1
   exact⟨n,by unfold dO;rw[hp];simp only;rw[hn];exact hs⟩
  ·exact absurd hs (vG _ _ _ _ _ _ _)
theorem Rl{D:cX}:∀(ops:List aZ) {env:Env} {h:aA} {r:Env×aA},iX (fc D) ops env h=some r→∃ n,iX (enter (eK D n) D) ops env h=some r:=by
 intro ops
 induction ops with
 | nil=>intro env h r hs;exact⟨0,hs⟩
 | cons o ops ih =>
  intro env h r hs
  simp only[iX]at hs
  split at hs
  ·rename_i hw
   split at hs
   ·rename_i v h' h1
    obtain⟨n1,k1⟩:=wY h1
    obtain⟨n2,k2⟩:=ih hs
    refine⟨max n1 n2,?_⟩
    simp only[iX,hw]
    rw[wZ (mW (jR D (Nat.le_max_left n1 n2)) D) k1]
    exact Ek (mW (jR D (Nat.le_max_right n1 n2)) D) _ k2
   ·cases hs
  ·rename_i hw
   obtain⟨n2,k2⟩:=ih hs
   exact⟨n2,by simp only[iX,hw];exact k2⟩
  ·cases hs
theorem Mp{D:cX}:∀(ops:List aZ) {env:Env} {hs:List aA} {L:dE} {r:Env×aA},eI (fc D) ops env hs L=some r→∃ n,eI (enter (eK D n) D) ops env hs L=some r:=by
 intro ops
 induction ops with
 | nil=>intro env h L r hs;exact⟨0,hs⟩
 | cons o ops ih =>
  intro env hs L r he
  cases hs with
  | nil=>simp[eI]at he
  | cons h hs =>
   simp only[eI]at he
   split at he
   ·cases he
   ·rename_i hw
    split at he
    ·rename_i hk
     split at he
     ·rename_i tA
      split at he
      ·rename_i h0 hsn
       split at he
       ·rename_i v h1 dK
        obtain⟨n,hn⟩:=ih he
        exact⟨n,by simp only[eI,hw,hk,hsn,dK,if_pos tA];exact hn⟩
       ·cases he
      ·cases he
     ·cases he
    ·rename_i hk
     split at he
     ·rename_i v h' h1
      obtain⟨n1,k1⟩:=wY h1
      obtain⟨n2,k2⟩:=ih he
      refine⟨max n1 n2,?_⟩
      simp only[eI,hw,hk]
      rw[wZ (mW (jR D (Nat.le_max_left n1 n2)) D) k1]
      exact vC (mW (jR D (Nat.le_max_right n1 n2)) D) _ k2
     ·cases he
    ·rename_i hk
     split at he
     ·rename_i h0 hsn
      split at he
      ·rename_i v h' L' h1
       obtain⟨n1,k1⟩:=Lt h1
       obtain⟨n2,k2⟩:=ih he
       refine⟨max n1 n2,?_⟩
       simp only[eI,hw,hk,hsn]
       rw[Gh (mW (jR D (Nat.le_max_left n1 n2)) D) k1]
       exact vC (mW (jR D (Nat.le_max_right n1 n2)) D) _ k2
      ·cases he
     ·cases he
   ·rename_i hw
    obtain⟨n2,k2⟩:=ih he
    exact⟨n2,by simp only[eI,hw];exact k2⟩
section
variable (D:cX) (env:Env) (h:aA)
theorem TK:ev D .skip env h=.ok .normal env h:=fM.2 ⟨1,rfl⟩
theorem TM(id:Nat):ev D (.exit id) env h=.ok (.exit id) env h:=fM.2 ⟨1,rfl⟩
theorem b8:ev D .ret env h=.ok .ret env h:=fM.2 ⟨1,rfl⟩
theorem b7(a b:aN):ev D (.seq a b) env h=match ev D a env h with
  | .ok .normal env h=>ev D b env h
  | r=>r:=by
 apply yH
 intro e cJ h'
 constructor
 ·intro hs
  obtain⟨n,hn⟩:=fM.1 hs
  cases n with
  | zero=>cases hn
  | succ n =>
   simp only[eK]at hn
   split at hn
   ·rename_i h1
    rw[fM.2 ⟨n,h1⟩]
    exact fM.2 ⟨n,hn⟩
   ·rename_i eG
    rw[fM.2 ⟨n,hn⟩]
    cases e with
    | normal=>exact absurd hn (eG _ _)
    | _=>rfl
 ·intro hs
  split at hs
  ·rename_i env1 h1 hv
   obtain⟨n1,k1⟩:=fM.1 hv
   obtain⟨n2,k2⟩:=fM.1 hs
   refine fM.2 ⟨max n1 n2+1,?_⟩
   simp only[eK]
   rw[jR D (Nat.le_max_left n1 n2) _ _ _ _ _ _ k1]
   exact jR D (Nat.le_max_right n1 n2) _ _ _ _ _ _ k2
  ·rename_i eG
   obtain⟨n1,k1⟩:=fM.1 hs
   refine fM.2 ⟨n1+1,?_⟩
   simp only[eK]
   rw[k1]
   cases e with
   | normal=>exact absurd hs (eG _ _)
   | _=>rfl
theorem TO(c:Opd)(a b:aN):ev D (.cond c a b) env h=match c.eval env with
  | .bool true=>ev D a env h
  | .bool false=>ev D b env h
  | _=>.fail:=by
 apply yH
 intro e cJ h'
 constructor
 ·intro hs
  obtain⟨n,hn⟩:=fM.1 hs
  cases n with
  | zero=>cases hn
  | succ n =>
   simp only[eK]at hn
   split at hn
   ·rename_i hc;rw[hc];exact fM.2 ⟨n,hn⟩
   ·rename_i hc;rw[hc];exact fM.2 ⟨n,hn⟩
   ·cases hn
 ·intro hs
  split at hs
  ·rename_i hc
   obtain⟨n1,k1⟩:=fM.1 hs
   exact fM.2 ⟨n1+1,by simp only[eK,hc];exact k1⟩
  ·rename_i hc
   obtain⟨n1,k1⟩:=fM.1 hs
   exact fM.2 ⟨n1+1,by simp only[eK,hc];exact k1⟩
  ·cases hs
theorem NX(id:Nat)(b:aN):ev D (.block id b) env h=match ev D b env h with
  | .ok (.exit id') env h=>if id'=id then .ok .normal env h else .ok (.exit id') env h
  | r=>r:=by
 apply yH
 intro e cJ h'
 constructor
 ·intro hs
  obtain⟨n,hn⟩:=fM.1 hs
  cases n with
  | zero=>cases hn
  | succ n =>
   simp only[eK]at hn
   split at hn
   ·rename_i h1
    rw[fM.2 ⟨n,h1⟩]
    exact hn
   ·rename_i eG
    rw[fM.2 ⟨n,hn⟩]
    cases e with
    | exit i=>exact absurd hn (eG _ _ _)
    | _=>rfl
 ·intro hs
  split at hs
  ·rename_i h1
   obtain⟨n1,k1⟩:=fM.1 h1
   exact fM.2 ⟨n1+1,by simp only[eK];rw[k1];exact hs⟩
  ·rename_i eG
   obtain⟨n1,k1⟩:=fM.1 hs
   refine fM.2 ⟨n1+1,?_⟩
   simp only[eK]
   rw[k1]
   cases e with
   | exit i=>exact absurd hs (eG _ _ _)
   | _=>rfl
theorem TL(b:aN):ev D (.loop b) env h=match ev D b env h with
  | .ok .normal env h=>ev D (.loop b) env h
  | r=>r:=by
 apply yH
 intro e cJ h'
 constructor
 ·intro hs
  obtain⟨n,hn⟩:=fM.1 hs
  cases n with
  | zero=>cases hn
  | succ n =>
   simp only[eK]at hn
   split at hn
   ·rename_i h1
    rw[fM.2 ⟨n,h1⟩]
    exact fM.2 ⟨n,hn⟩
   ·rename_i eG
    rw[fM.2 ⟨n,hn⟩]
    cases e with
    | normal=>exact absurd hn (eG _ _)
    | _=>rfl
 ·intro hs
  split at hs
  ·rename_i env1 h1 hv
   obtain⟨n1,k1⟩:=fM.1 hv
   obtain⟨n2,k2⟩:=fM.1 hs
   refine fM.2 ⟨max n1 n2+1,?_⟩
   simp only[eK]
   rw[jR D (Nat.le_max_left n1 n2) _ _ _ _ _ _ k1]
   exact jR D (Nat.le_max_right n1 n2) _ _ _ _ _ _ k2
  ·rename_i eG
   obtain⟨n1,k1⟩:=fM.1 hs
   refine fM.2 ⟨n1+1,?_⟩
   simp only[eK]
   rw[k1]
   cases e with
   | normal=>exact absurd hs (eG _ _)
   | _=>rfl
theorem FW(ops:List aZ):ev D (.region ops) env h=match iX (fc D) ops env h with
  | some (env,h)=>.ok .normal env h
  | none=>.fail:=by
 apply yH
 intro e cJ h'
 constructor
 ·intro hs
  obtain⟨n,hn⟩:=fM.1 hs
  cases n with
  | zero=>cases hn
  | succ n =>
   simp only[eK]at hn
   split at hn
   ·rename_i h1
    rw[Ek (Ly D n) _ h1];exact hn
   ·cases hn
 ·intro hs
  split at hs
  ·rename_i h1
   obtain⟨n1,k1⟩:=Rl _ h1
   exact fM.2 ⟨n1+1,by simp only[eK];rw[k1];exact hs⟩
  ·cases hs
theorem TN(ops:List aZ):ev D (.draw ops) env h=match eI (fc D) ops env [h] .start with
  | some (env,h)=>.ok .normal env h
  | none=>.fail:=by
 apply yH
 intro e cJ h'
 constructor
 ·intro hs
  obtain⟨n,hn⟩:=fM.1 hs
  cases n with
  | zero=>cases hn
  | succ n =>
   simp only[eK]at hn
   split at hn
   ·rename_i h1
    rw[vC (Ly D n) _ h1];exact hn
   ·cases hn
 ·intro hs
  split at hs
  ·rename_i h1
   obtain⟨n1,k1⟩:=Mp _ h1
   exact fM.2 ⟨n1+1,by simp only[eK];rw[k1];exact hs⟩
  ·cases hs
theorem Ym(f:Nat)(args:List DV):fc D f args h=match D.hook f with
  | some hk=>hk h args
  | none=>match D.fn f with
   | none=>none
   | some df=>dU (ev D) df args h:=xO _ _ _ _ _
end
end Go.Dm
/-
Part 2 of "Dw": the same with what is still to be done laid in a row, and the slots by number: each step is one equation.
-/
namespace Go.Dm
abbrev cT:=Nat→DV
def tab(N:Nat)(f:cT):Env:=(List.range N).map f
def upd(f:cT)(d:Nat)(v:DV):cT:=fun i=>if i=d then v else f i
def tY(f:cT)(dst:Option Nat)(v:DV):cT:=match dst with|some d=>upd f d v|none=>f
def rd(N:Nat)(f:cT)(i:Nat):DV:=if i<N then f i else .unk
def OX(args:List DV):cT:=fun i=>args.getD i cF
theorem yE(N:Nat)(f:cT)(i:Nat):(tab N f)[i]?=if i<N then some (f i)else none:=by
 by_cases h:i<N
 ·simp[tab,h]
 ·simp only[tab,List.getElem?_map,if_neg h]
  rw[List.getElem?_eq_none (by simp;omega)];rfl
theorem Ig(N:Nat)(f:cT)(i:Nat):((tab N f)[i]?).getD .unk=rd N f i:=by
 rw[yE];unfold rd;split<;>rfl
theorem QK(N:Nat)(f:cT)(d:Nat)(v:DV):(tab N f).set d v=tab N (upd f d v):=by
 apply List.ext_getElem?
 intro i
 rw[List.getElem?_set,yE,yE]
 simp only[tab,List.length_map,List.length_range,upd]
 by_cases e:d=i
 ·subst e
  by_cases h:d<N<;>simp[h]
 ·have e':¬i=d:=fun q=>e q.symm
  simp only[if_neg e,if_neg e']
theorem sU(N:Nat)(f:cT)(dst:Option Nat)(v:DV):put (tab N f) dst v=tab N (tY f dst v):=by
 cases dst with
 | none=>rfl
 | some d=>exact QK N f d v
theorem IV(N:Nat)(args:List DV)(h:args.length≤N):args++List.replicate (N-args.length) cF=tab N (OX args):=by
 apply List.ext_getElem?
 intro i
 rw[yE,List.getElem?_append]
 unfold OX
 by_cases h1:i<args.length
 ·rw[if_pos h1,if_pos (by omega)]
  simp[h1]
 ·rw[if_neg h1]
  by_cases h2:i<N
  ·rw[if_pos h2,List.getElem?_replicate,if_pos (by omega),List.getD_eq_getElem?_getD,List.getElem?_eq_none (by omega)];rfl
  ·rw[if_neg h2,List.getElem?_replicate,if_neg (by omega)]
theorem ZY(N:Nat)(f:cT)(i:Nat):Opd.eval (tab N f) (.t i)=rd N f i:=Ig N f i
theorem ZZ(env:Env)(v:DV):Opd.eval env (.c v)=v:=rfl
inductive Fr where
 | seq (b:aN)
 | block (id:Nat)
 | loop (b:aN)
noncomputable def Af(D:cX):List Fr→Ex→Env→aA→Res
 | [],e,env,h=>.ok e env h
 | .seq b::S,e,env,h=>match e with
  | .normal=>match ev D b env h with
   | .ok e env h=>Af D S e env h
   | .fail=>.fail
  | e=>Af D S e env h
 | .block id::S,e,env,h=>Af D S (match e with|.exit i=>if i=id then .normal else .exit i|e=>e) env h
 | .loop b::S,e,env,h=>match e with
  | .normal=>match ev D (.loop b) env h with
   | .ok e env h=>Af D S e env h
   | .fail=>.fail
  | e=>Af D S e env h
noncomputable def after(D:cX)(S:List Fr):Res→Res
 | .ok e env h=>Af D S e env h
 | .fail=>.fail
noncomputable def run(D:cX)(N:Nat)(S:List Fr)(c:aN)(f:cT)(h:aA):Res:=after D S (ev D c (tab N f) h)
noncomputable def ret(D:cX)(N:Nat)(S:List Fr)(e:Ex)(f:cT)(h:aA):Res:=Af D S e (tab N f) h
noncomputable def KZ(D:cX)(N:Nat)(S:List Fr)(a b:aN)(f:cT)(h:aA):DV→Res
 | .bool true=>run D N S a f h
 | .bool false=>run D N S b f h
 | _=>.fail
noncomputable def Ch(D:cX)(N:Nat)(S:List Fr)(ops:List aZ)(f:cT)(h:aA):Res :=
 match iX (fc D) ops (tab N f) h with
 | some (env,h)=>Af D S .normal env h
 | none=>.fail
noncomputable def DK(D:cX)(N:Nat)(S:List Fr)(dst:Option Nat)(r:List aZ)(f:cT):Option (DV×aA)→Res
 | some (v,h)=>Ch D N S r (tY f dst v) h
 | none=>.fail
noncomputable def DN(D:cX)(N:Nat)(S:List Fr)(o:aZ)(w:Bool)(r:List aZ)(f:cT)(h:aA):DV→Res
 | .bool b=>if b=w then DK D N S o.dst r f (cC (fc D) o.op (tab N f) h)else Ch D N S r (tY f o.dst cF) h
 | .tup _=>Ch D N S r (tY f o.dst cF) h
 | _=>.fail
noncomputable def wT(D:cX)(N:Nat)(S:List Fr)(ops:List aZ)(f:cT)(hs:List aA)(L:dE):Res :=
 match eI (fc D) ops (tab N f) hs L with
 | some (env,h)=>Af D S .normal env h
 | none=>.fail
noncomputable def Y1(D:cX)(N:Nat)(S:List Fr)(dst:Option Nat)(r:List aZ)(f:cT)(hs:List aA)(L:dE):Option (DV×aA)→Res
 | some (v,_)=>wT D N S r (tY f dst v) hs L
 | none=>.fail
noncomputable def Y0(D:cX)(N:Nat)(S:List Fr)(dst:Option Nat)(r:List aZ)(f:cT)(hs:List aA)(L:dE):Option (DV×aA)→Res
 | some (v,h)=>wT D N S r (tY f dst v) (h::hs) L
 | none=>.fail
noncomputable def X9(D:cX)(N:Nat)(S:List Fr)(dst:Option Nat)(r:List aZ)(f:cT)(hs:List aA):Option (DV×aA×dE)→Res
 | some (v,h,L)=>wT D N S r (tY f dst v) (h::hs) L
 | none=>.fail
noncomputable def Wf(D:cX)(N:Nat)(S:List Fr)(dst:Option Nat)(op:DOp)(cm:Bool)(r:List aZ)(f:cT)(hs:List aA)(L:dE):Option aA→Res
 | some h0=>Y1 D N S dst r f hs (L.see cm (mark (tab N f) op)) (aK h0 (tab N f) op)
 | none=>.fail
noncomputable def Y2(D:cX)(N:Nat)(S:List Fr)(dst:Option Nat)(op:DOp)(r:List aZ)(f:cT)(h:aA)(gs:List aA)(L:dE):Option aA→Res
 | some h0=>X9 D N S dst r f (h::gs) (dO (fc D) h0.n gs.length L op (tab N f) h)
 | none=>.fail
noncomputable def Ci(D:cX)(N:Nat)(S:List Fr)(dst:Option Nat)(op:DOp)(snap:Nat)(cm:Bool)(r:List aZ)(f:cT)(hs:List aA)(L:dE):uU→Res
 | .read=>if L.free snap (cI (tab N f) op)=true then Wf D N S dst op cm r f hs L (kH hs snap)else .fail
 | .write=>match hs with
  | h::_=>Y0 D N S dst r f hs L (cC (fc D) op (tab N f) h)
  | []=>.fail
 | .create=>match hs with
  | h::gs=>Y2 D N S dst op r f h gs L (kH hs snap)
  | []=>.fail
noncomputable def zK(D:cX)(N:Nat)(S:List Fr)(dst:Option Nat)(k:uU)(r:List aZ)(f:cT)(L:dE):List aA→Res
 | h::hs=>wT D N S r (tY f dst cF) (if k=.read then h::hs else h::h::hs) L
 | []=>.fail
noncomputable def Wh(D:cX)(N:Nat)(S:List Fr)(o:aZ)(w:Bool)(r:List aZ)(f:cT)(hs:List aA)(L:dE):DV→Res
 | .bool b=>if b=w then Ci D N S o.dst o.op o.snap o.calm r f hs L o.kind else zK D N S o.dst o.kind r f L hs
 | .tup _=>zK D N S o.dst o.kind r f L hs
 | _=>.fail
noncomputable def AS(D:cX)(as:List DV)(h:aA):DV→Option (DV×aA)
 | .func g cap=>fc D g (as++cap) h
 | _=>none
section
variable (D:cX) (N:Nat) (S:List Fr) (f:cT) (h:aA)
theorem KQ:run D N S .skip f h=ret D N S .normal f h:=by unfold run;rw[TK];rfl
theorem KS(id:Nat):run D N S (.exit id) f h=ret D N S (.exit id) f h:=by unfold run;rw[TM];rfl
theorem RE:run D N S .ret f h=ret D N S .ret f h:=by unfold run;rw[b8];rfl
theorem RD(a b:aN):run D N S (.seq a b) f h=run D N (.seq b::S) a f h:=by
 unfold run
 rw[b7]
 cases ev D a (tab N f) h with
 | fail=>rfl
 | ok e env h1 =>
  cases e<;>simp only[after,Af]
theorem KU(c:Opd)(a b:aN):run D N S (.cond c a b) f h=KZ D N S a b f h (c.eval (tab N f)):=by
 unfold run
 rw[TO]
 unfold KZ
 split<;>simp_all[run,after]
theorem DI(id:Nat)(b:aN):run D N S (.block id b) f h=run D N (.block id::S) b f h:=by
 unfold run
 rw[NX]
 cases ev D b (tab N f) h with
 | fail=>rfl
 | ok e env h1 =>
  cases e with
  | exit i =>
   by_cases e:i=id
   ·simp only[after,Af,if_pos e]
   ·simp only[after,Af,if_neg e]
  | _=>rfl
theorem KR(b:aN):run D N S (.loop b) f h=run D N (.loop b::S) b f h:=by
 unfold run
 rw[TL]
 cases ev D b (tab N f) h with
 | fail=>rfl
 | ok e env h1 =>
  cases e<;>simp only[after,Af]
theorem I8(ops:List aZ):run D N S (.region ops) f h=Ch D N S ops f h:=by
 unfold run Ch
 rw[FW]
 cases iX (fc D) ops (tab N f) h<;>rfl
theorem KT(ops:List aZ):run D N S (.draw ops) f h=wT D N S ops f [h] .start:=by
 unfold run wT
 rw[TN]
 cases eI (fc D) ops (tab N f) [h] .start<;>rfl
theorem DR(a b:aN):KZ D N S a b f h (.bool true)=run D N S a f h:=rfl
theorem K0(a b:aN):KZ D N S a b f h (.bool false)=run D N S b f h:=rfl
theorem KY(a b:aN)(t:Bool):KZ D N S a b f h (.bool t)=if t=true then run D N S a f h else run D N S b f h:=by cases t<;>rfl
theorem RG(e:Ex):ret D N [] e f h=.ok e (tab N f) h:=rfl
theorem RF(b:aN):ret D N (.seq b::S) .normal f h=run D N S b f h:=by
 unfold ret run;simp only[Af];cases ev D b (tab N f) h<;>rfl
theorem Rr(b:aN)(i:Nat):ret D N (.seq b::S) (.exit i) f h=ret D N S (.exit i) f h:=rfl
theorem Wi(b:aN):ret D N (.seq b::S) .ret f h=ret D N S .ret f h:=rfl
theorem DT(id:Nat):ret D N (.block id::S) .normal f h=ret D N S .normal f h:=rfl
theorem Ms(id:Nat):ret D N (.block id::S) .ret f h=ret D N S .ret f h:=rfl
theorem Jn(id i:Nat):ret D N (.block id::S) (.exit i) f h=ret D N S (if i=id then .normal else .exit i) f h:=rfl
theorem LA(b:aN):ret D N (.loop b::S) .normal f h=run D N S (.loop b) f h:=by
 unfold ret run;simp only[Af];cases ev D (.loop b) (tab N f) h<;>rfl
theorem Mr(b:aN)(i:Nat):ret D N (.loop b::S) (.exit i) f h=ret D N S (.exit i) f h:=rfl
theorem Rs(b:aN):ret D N (.loop b::S) .ret f h=ret D N S .ret f h:=rfl
theorem KV:Ch D N S [] f h=ret D N S .normal f h:=rfl
theorem DL(dst:Option Nat)(op:DOp)(k:uU)(s:Nat)(cm:Bool)(r:List aZ) :
  Ch D N S (⟨dst,op,none,k,s,cm⟩::r) f h=DK D N S dst r f (cC (fc D) op (tab N f) h):=by
 unfold Ch
 simp only[iX,jQ]
 cases cC (fc D) op (tab N f) h with
 | none=>rfl
 | some p=>simp only[DK,sU];rfl
theorem I9(dst:Option Nat)(op:DOp)(t:Nat)(w:Bool)(k:uU)(s:Nat)(cm:Bool)(r:List aZ) :
  Ch D N S (⟨dst,op,some (t,w),k,s,cm⟩::r) f h=DN D N S ⟨dst,op,some (t,w),k,s,cm⟩ w r f h (rd N f t):=by
 unfold Ch
 simp only[iX,jQ,yE]
 unfold rd
 by_cases bC:t<N
 ·simp only[if_pos bC]
  cases hv:f t with
  | bool b =>
   simp only[DN]
   by_cases e:b=w
   ·subst e
    simp only[beq_self_eq_true,if_true]
    cases cC (fc D) op (tab N f) h with
    | none=>rfl
    | some p=>simp only[DK,sU];rfl
   ·have:(b == w)=false:=by simpa using e
    simp only[this,if_neg e,sU];rfl
  | tup l=>simp only[DN,sU];rfl
  | _=>rfl
 ·simp only[if_neg bC];rfl
theorem DJ(dst:Option Nat)(r:List aZ)(v:DV):DK D N S dst r f (some (v,h))=Ch D N S r (tY f dst v) h:=rfl
theorem DM(o:aZ)(w:Bool)(r:List aZ)(b:Bool):DN D N S o w r f h (.bool b)=if b=w then DK D N S o.dst r f (cC (fc D) o.op (tab N f) h)else Ch D N S r (tY f o.dst cF) h:=rfl
theorem KW(o:aZ)(w:Bool)(r:List aZ)(l:List DV):DN D N S o w r f h (.tup l)=Ch D N S r (tY f o.dst cF) h:=rfl
variable (hs:List aA) (L:dE)
theorem KX:wT D N S [] f (h::hs) L=ret D N S .normal f h:=rfl
theorem Nu(dst:Option Nat)(op:DOp)(k:uU)(s:Nat)(cm:Bool)(r:List aZ)(g:Option (Nat×Bool)) :
  wT D N S (⟨dst,op,g,k,s,cm⟩::r) f (h::hs) L=(match jQ (tab N f) g with
   | none=>.fail
   | some true=>Ci D N S dst op s cm r f (h::hs) L k
   | some false=>zK D N S dst k r f L (h::hs)):=by
 unfold wT
 simp only[eI]
 cases jQ (tab N f) g with
 | none=>rfl
 | some t =>
  cases t with
  | false=>simp only[zK,sU];rfl
  | true =>
   simp only[Ci]
   cases k with
   | read =>
    simp only
    by_cases tA:L.free s (cI (tab N f) op)=true
    ·simp only[if_pos tA,Wf]
     cases kH (h::hs) s with
     | none=>rfl
     | some h0 =>
      simp only
      cases aK h0 (tab N f) op with
      | none=>rfl
      | some p=>simp only[Y1,sU];rfl
    ·simp only[if_neg tA]
   | write =>
    simp only
    cases cC (fc D) op (tab N f) h with
    | none=>rfl
    | some p=>simp only[Y0,sU];rfl
   | create =>
    simp only[Y2]
    cases kH (h::hs) s with
    | none=>rfl
    | some h0 =>
     simp only
     cases dO (fc D) h0.n hs.length L op (tab N f) h with
     | none=>rfl
     | some p=>simp only[X9,sU];rfl
theorem DP(dst:Option Nat)(op:DOp)(k:uU)(s:Nat)(cm:Bool)(r:List aZ) :
  wT D N S (⟨dst,op,none,k,s,cm⟩::r) f (h::hs) L=Ci D N S dst op s cm r f (h::hs) L k:=by rw[Nu];rfl
theorem J1(dst:Option Nat)(op:DOp)(t:Nat)(w:Bool)(k:uU)(s:Nat)(cm:Bool)(r:List aZ) :
  wT D N S (⟨dst,op,some (t,w),k,s,cm⟩::r) f (h::hs) L=Wh D N S ⟨dst,op,some (t,w),k,s,cm⟩ w r f (h::hs) L (rd N f t):=by
 rw[Nu]
 simp only[jQ,yE]
 unfold rd
 by_cases bC:t<N
 ·simp only[if_pos bC]
  cases hv:f t with
  | bool b =>
   simp only[Wh]
   by_cases e:b=w
   ·subst e;simp
   ·have:(b == w)=false:=by simpa using e
    simp only[this,if_neg e]
  | _=>rfl
 ·simp only[if_neg bC];rfl
theorem J8(o:aZ)(w:Bool)(r:List aZ)(b:Bool):Wh D N S o w r f hs L (.bool b)=if b=w then Ci D N S o.dst o.op o.snap o.calm r f hs L o.kind else zK D N S o.dst o.kind r f L hs:=rfl
theorem DQ(o:aZ)(w:Bool)(r:List aZ)(l:List DV):Wh D N S o w r f hs L (.tup l)=zK D N S o.dst o.kind r f L hs:=rfl
theorem J5(dst:Option Nat)(r:List aZ):zK D N S dst .read r f L (h::hs)=wT D N S r (tY f dst cF) (h::hs) L:=rfl
theorem Wc(dst:Option Nat)(r:List aZ):zK D N S dst .write r f L (h::hs)=wT D N S r (tY f dst cF) (h::h::hs) L:=rfl
theorem Rn(dst:Option Nat)(r:List aZ):zK D N S dst .create r f L (h::hs)=wT D N S r (tY f dst cF) (h::h::hs) L:=rfl
theorem J6(dst:Option Nat)(op:DOp)(s:Nat)(cm:Bool)(r:List aZ):Ci D N S dst op s cm r f hs L .read=if L.free s (cI (tab N f) op)=true then Wf D N S dst op cm r f hs L (kH hs s)else .fail:=rfl
theorem Wd(dst:Option Nat)(op:DOp)(s:Nat)(cm:Bool)(r:List aZ):Ci D N S dst op s cm r f (h::hs) L .write=Y0 D N S dst r f (h::hs) L (cC (fc D) op (tab N f) h):=rfl
theorem Ro(dst:Option Nat)(op:DOp)(s:Nat)(cm:Bool)(r:List aZ):Ci D N S dst op s cm r f (h::hs) L .create=Y2 D N S dst op r f h hs L (kH (h::hs) s):=rfl
theorem J7(dst:Option Nat)(op:DOp)(cm:Bool)(r:List aZ)(h0:aA):Wf D N S dst op cm r f hs L (some h0)=Y1 D N S dst r f hs (L.see cm (mark (tab N f) op)) (aK h0 (tab N f) op):=rfl
theorem J9(dst:Option Nat)(op:DOp)(r:List aZ)(h0:aA):Y2 D N S dst op r f h hs L (some h0)=X9 D N S dst r f (h::hs) (dO (fc D) h0.n hs.length L op (tab N f) h):=rfl
theorem J4(dst:Option Nat)(r:List aZ)(v:DV):Y1 D N S dst r f hs L (some (v,h))=wT D N S r (tY f dst v) hs L:=rfl
theorem J3(dst:Option Nat)(r:List aZ)(v:DV):Y0 D N S dst r f hs L (some (v,h))=wT D N S r (tY f dst v) (h::hs) L:=rfl
theorem J2(dst:Option Nat)(r:List aZ)(v:DV):X9 D N S dst r f hs (some (v,h,L))=wT D N S r (tY f dst v) (h::hs) L:=rfl
theorem CZ(k:Nat):kH hs k=hs.reverse[k]?:=by
 unfold kH
 split
 ·rename_i hk;rw[List.getElem?_reverse hk]
 ·rename_i hk;rw[List.getElem?_eq_none (by simp;omega)]
theorem M3(g:Opd)(args:List Opd)(env:Env):cC (fc D) (.call g args) env h=AS D (args.map (Opd.eval env)) h (g.eval env):=by
 simp only[cC,AS]
 split<;>simp_all
theorem S5(as:List DV)(g:Nat)(cap:List DV):AS D as h (.func g cap)=fc D g (as++cap) h:=rfl
def fin(rs:List Nl):Res→Option (DV×aA)
 | .ok (.exit _) _ _=>none
 | .ok _ env h'=>match aI h' env rs with
  | some v=>some (v,h')
  | none=>none
 | .fail=>none
def NU(h:aA):Option DV→Option (DV×aA)
 | some v=>some (v,h)
 | none=>none
theorem TJ(rs:List Nl)(env:Env):fin rs (.ok .ret env h)=NU h (aI h env rs):=by
 unfold fin NU;rfl
theorem Q4(rs:List Nl)(env:Env):fin rs (.ok .normal env h)=NU h (aI h env rs):=by
 unfold fin NU;rfl
theorem FR(v:DV):NU h (some v)=some (v,h):=rfl
theorem aJ(df:aQ)(args:List DV)(hl:args.length≤df.ntmps):iT (ev D) df args h=fin df.results (run D df.ntmps [] df.body (OX args) h):=by
 unfold iT run
 rw[IV _ _ hl]
 cases ev D df.body (tab df.ntmps (OX args)) h with
 | fail=>rfl
 | ok e env h1=>cases e<;>rfl
theorem Mu(env:Env)(r:Nl):aI h env [r]=lJ h env r:=rfl
theorem K6(n:Nat):lJ h (tab N f) (.t n)=some (rd N f n):=by simp only[lJ,Ig]
theorem Mv(a:Nat)(n:Option Nat):lJ h (tab N f) (.cell a n)=lM h n (rd N f a):=by simp only[lJ,Ig]
end
def oH:aA:={objs:=[],n:=0,lim:=0}
noncomputable def cW(o:Option (DV×aA)):Option DV :=
 match o with
 | some (v,h')=>match resolve false h' cY v with
  | some d=>if bI cY d then some d else none
  | none=>none
 | none=>none
noncomputable def pcF(D:cX)(df:aQ)(ds:List DV):Option DV:=cW (iT (ev D) df ds oH)
def dV(h:aA):Option DV→Option (DV×aA)
 | some d=>some (d,h)
 | none=>none
theorem Bm(h:aA)(d:DV):dV h (some d)=some (d,h):=rfl
noncomputable def Gp(D:cX)(df:aQ)(h:aA):Option (List DV)→Option (DV×aA)
 | some ds=>dV h (pcF D df ds)
 | none=>none
theorem Bn(D:cX)(df:aQ)(h:aA)(ds:List DV):Gp D df h (some ds)=dV h (pcF D df ds):=rfl
theorem bA{D:cX}{f:Nat}{df:aQ}(hh:D.hook f=none)(hf:D.fn f=some df)(hm:df.mode=.pure)(args:List DV)(h:aA) :
  fc D f args h=Gp D df h (args.mapM (resolve true h cY)):=by
 rw[Ym,hh,hf]
 simp only
 unfold dU
 rw[hm]
 simp only
 cases args.mapM (resolve true h cY)with
 | none=>rfl
 | some ds =>
  simp only[Gp,pcF,cW,oH,dV]
  cases iT (ev D) df ds {objs:=[],n:=0,lim:=0} with
  | none=>rfl
  | some p =>
   obtain⟨v,h'⟩:=p
   simp only
   cases resolve false h' cY v with
   | none=>rfl
   | some d =>
    simp only
    split<;>rfl
noncomputable def AR(D:cX)(df:aQ):Option (List DV×aA)→Option (DV×aA)
 | some (as,h)=>Gp D df h (as.mapM (resolve true h cY))
 | none=>none
theorem S4(D:cX)(df:aQ)(as:List DV)(h:aA):AR D df (some (as,h))=Gp D df h (as.mapM (resolve true h cY)):=rfl
theorem iK{D:cX}{f:Nat}{df:aQ}(hh:D.hook f=none)(hf:D.fn f=some df)(hm:df.mode=.frz)(args:List DV)(h:aA) :
  fc D f args h=AR D df (vJ jE h args):=by
 rw[Ym,hh,hf]
 simp only
 unfold dU
 rw[hm]
 simp only
 cases vJ jE h args with
 | none=>rfl
 | some p =>
  obtain⟨as,h1⟩:=p
  simp only[AR]
  cases as.mapM (resolve true h1 cY)with
  | none=>rfl
  | some ds =>
   simp only[Gp,pcF,cW,oH,dV]
   cases iT (ev D) df ds {objs:=[],n:=0,lim:=0} with
   | none=>rfl
   | some p =>
    obtain⟨v,h'⟩:=p
    simp only
    cases resolve false h' cY v with
    | none=>rfl
    | some d =>
     simp only
     split<;>rfl
theorem oK{D:cX}{f:Nat}{df:aQ}(hh:D.hook f=none)(hf:D.fn f=some df)(hm:df.mode=.full)(args:List DV)(h:aA) :
  fc D f args h=iT (ev D) df args h:=by
 rw[Ym,hh,hf]
 simp only
 unfold dU
 rw[hm]
theorem pZ{D:cX}{f:Nat}{hk:wL}(hh:D.hook f=some hk)(args:List DV)(h:aA):fc D f args h=hk h args:=by
 rw[Ym,hh]
end Go.Dm
/-
Part 1 of "De": equations by which 'simp' runs the machine's code over data that are partly unknown.
-/
namespace Go.Dm
def WF(h:aA):Prop:=h.objs.length=h.n
theorem HW:WF oH:=rfl
theorem WF.push{h:aA}{o:DO}(w:WF h):WF (h.push o):=by unfold WF at *;simp[aA.push,w]
theorem WF.set{h:aA}{id:Nat}{o:DO}(w:WF h):WF (h.set id o):=by unfold WF at *;simp[aA.set,w]
theorem WF.lim{h:aA}{l:Nat}(w:WF h):WF {h with lim:=l}:=w
theorem Rw{h:aA}{o o':DO}{id:Nat}(fI:id<h.n):(h.push o).set id o'=(h.set id o').push o:=by
 have e:h.n-id=(h.n-1-id)+1:=by omega
 simp[aA.push,aA.set]
 rw[e];rfl
theorem Wo{h:aA}{o o':DO}{id:Nat}:(h.push o).set id o'=if id<h.n then(h.set id o').push o else h.push o':=by
 split
 ·rename_i fI;exact Rw fI
 ·rename_i fI
  have e:h.n-id=0:=by omega
  simp[aA.push,aA.set]
  rw[e];rfl
theorem X6{h:aA}{id:Nat}{o:DO}:(h.set id o).n=h.n:=rfl
theorem bY{h:aA}(w:WF h){id k:Nat}{o:DO}(fI:id<h.n):(h.set id o).get k=if k=id then some o else h.get k:=by
 unfold WF at w
 by_cases e:k=id
 ·subst e
  rw[if_pos rfl]
  simp only[aA.get,aA.set,if_pos fI]
  rw[List.getElem?_set,if_pos rfl,if_pos (by omega)]
  exact if_pos fI
 ·rw[if_neg e];exact dI fI e
theorem bB{h:aA}{id:Nat}{o:DO}(hg:h.get id=some o):id<h.n:=iA hg
def LP(c a b:DV):Option DV:=match c with|.bool t=>some (if t then a else b)|_=>none
theorem L9(t:Bool)(a b:DV):LP (.bool t) a b=some (if t then a else b):=rfl
def yJ:DV→Option DV
 | .ptr id sz idx off=>some (.ptr id sz idx off)
 | .iptr l cs off=>some (.iptr l cs off)
 | _=>none
theorem Mx(id sz idx off:Nat):yJ (.ptr id sz idx off)=some (.ptr id sz idx off):=rfl
theorem Jy(l:Bool)(cs:List DV)(off:Nat):yJ (.iptr l cs off)=some (.iptr l cs off):=rfl
def b9(neq:Bool):DV→DV→Option DV
 | .bool a,.bool b=>some (.bool (if neq then !(a == b)else a == b))
 | _,_=>none
theorem FX(neq a b:Bool):b9 neq (.bool a) (.bool b)=some (.bool (if neq then !(a == b)else a == b)):=rfl
def Gd(neq:Bool):Option Bool→Option DV
 | some r=>some (.bool (if neq then !r else r))
 | none=>none
theorem Q2(neq r:Bool):Gd neq (some r)=some (.bool (if neq then !r else r)):=rfl
def ON(k:IntKind):DV→Option DV|.int _ n=>some (.int k (k.wrap n))|_=>none
theorem GI(k k':IntKind)(n:Int):ON k (.int k' n)=some (.int k (k.wrap n)):=rfl
def S9:DV→Option DV|.str s=>some (.str s)|_=>none
theorem S8(s:List UInt8):S9 (.str s)=some (.str s):=rfl
def vR(off:Nat):DV→Option DV
 | .ptr id sz idx o=>some (.ptr id sz idx (o+off))
 | .iptr l cs o=>some (.iptr l cs (o+off))
 | _=>none
theorem Lg(off id sz idx o:Nat):vR off (.ptr id sz idx o)=some (.ptr id sz idx (o+off)):=rfl
theorem Hc(off:Nat)(l:Bool)(cs:List DV)(o:Nat):vR off (.iptr l cs o)=some (.iptr l cs (o+off)):=rfl
def Lf(off:Nat)(n:Option Nat):DV→Option DV|.agg cs=>dM n cs off|_=>none
theorem Q7(off:Nat)(n:Option Nat)(cs:List DV):Lf off n (.agg cs)=dM n cs off:=rfl
def bQ(sz:Nat)(x i:DV):Option DV :=
 match asI i with
 | some i =>
  match x with
  | .sl id eM off len=>if sz=eM∧0≤i∧i<(len:Int)then some (.ptr id sz (off+i.toNat) 0)else none
  | .isl l eM xs=>if sz=eM∧0≤i then(match xs[i.toNat]? with|some e=>some (.iptr l (aP sz e) 0)|none=>none)else none
  | _=>none
 | none=>none
def Ev(len esz:Nat)(x i:DV):Option DV :=
 match asI i with
 | some i =>
  if 0≤i∧i<(len:Int)then
   match x with
   | .ptr id sz idx o=>some (.ptr id sz idx (o+i.toNat*esz))
   | .iptr l cs o=>some (.iptr l cs (o+i.toNat*esz))
   | _=>none
  else none
 | none=>none
def O3(len esz:Nat)(n:Option Nat)(x i:DV):Option DV :=
 match asI i,x with
 | some i,.agg cs=>if 0≤i∧i<(len:Int)then dM n cs (i.toNat*esz)else none
 | _,_=>none
def rE(x i:DV):Option DV :=
 match asI i,x with
 | some i,.str s=>if 0≤i then(match s[i.toNat]? with|some b=>some (.int .u8 b.toNat)|none=>none)else none
 | _,_=>none
theorem Na(s:List UInt8)(k:IntKind)(i:Nat){b:UInt8}(hb:s[i]?=some b):rE (.str s) (.int k (i:Int))=some (.int .u8 b.toNat):=by
 simp[rE,asI,hb]
def dP(o:Option DV)(dflt lim:Nat):Option Nat :=
 match o with
 | none=>some dflt
 | some x=>match asI x with
  | some n=>if 0≤n∧n≤(lim:Int)then some n.toNat else none
  | none=>none
theorem Mb(env:Env)(o:Option Opd)(d l:Nat):bound env o d l=dP (o.map (Opd.eval env)) d l:=by
 cases o<;>rfl
theorem xW(d l:Nat):dP none d l=some d:=rfl
theorem vZ(k:IntKind)(n:Int)(d l:Nat)(h0:0≤n)(h1:n≤(l:Int)):dP (some (.int k n)) d l=some n.toNat:=by
 simp[dP,asI,h0,h1]
def pF(x:DV)(lo hi:Option DV):Option DV :=
 match x with
 | .str s=>match dP hi s.length s.length with
  | some b=>match dP lo 0 b with
   | some a=>some (.str ((s.drop a).take (b-a)))
   | none=>none
  | none=>none
 | _=>none
def iH(h:aA)(sz:Nat)(x:DV)(lo hi:Option DV):Option DV :=
 match x with
 | .nsl=>match dP hi 0 0 with
  | some b=>match dP lo 0 b with
   | some _=>some .nsl
   | none=>none
  | none=>none
 | .isl l eM xs=>if sz=eM∨xs=[]then match dP hi xs.length xs.length with
   | some b=>match dP lo 0 b with
    | some a=>some (.isl l sz ((xs.drop a).take (b-a)))
    | none=>none
   | none=>none
  else none
 | .sl id eM off len=>match h.get id with
  | some (.arr _ nR xs _)=>if sz=eM∧sz=nR∧off+len≤xs.length then match dP hi len (xs.length-off)with
    | some b=>match dP lo 0 b with
     | some a=>some (.sl id sz (off+a) (b-a))
     | none=>none
    | none=>none
   else none
  | _=>none
 | _=>none
def lenV(h:aA)(k:Nat):DV→Option DV
 | .str s=>if k=0 then some (.int .i64 s.length)else none
 | .nsl=>if k=1 then some (.int .i64 0)else none
 | .sl _ _ _ len=>if k=1 then some (.int .i64 len)else none
 | .isl _ _ xs=>if k=1 then some (.int .i64 xs.length)else none
 | .nmap=>if k=2 then some (.int .i64 0)else none
 | .map id=>match h.get id with|some (.mp es)=>if k=2 then some (.int .i64 es.length)else none|_=>none
 | _=>none
theorem MU(h:aA)(s:List UInt8):lenV h 0 (.str s)=some (.int .i64 s.length):=rfl
theorem MV(h:aA):lenV h 1 .nsl=some (.int .i64 0):=rfl
theorem SL(h:aA)(id sz off len:Nat):lenV h 1 (.sl id sz off len)=some (.int .i64 len):=rfl
theorem MW(h:aA)(t:Bool)(sz:Nat)(xs:List DV):lenV h 1 (.isl t sz xs)=some (.int .i64 xs.length):=rfl
def Tv(h:aA)(ety sz bytes:Nat)(s:DV):Option (List DV)→Option (DV×aA)
 | some ys=>aY h ety sz bytes s ys
 | none=>none
theorem Tu(h:aA)(ety sz bytes:Nat)(s:DV)(ys:List DV):Tv h ety sz bytes s (some ys)=aY h ety sz bytes s ys:=rfl
def OK(h:aA)(sz:Nat)(d:DV):Option (List DV)→Option (DV×aA)
 | some ys=>xR h sz d ys
 | none=>none
theorem R8(h:aA)(sz:Nat)(d:DV)(ys:List DV):OK h sz d (some ys)=xR h sz d ys:=rfl
def Sj(mx:Bool):DV→DV→Option DV
 | .int k a,.int _ b=>some (.int k (if mx then(if a<b then b else a)else(if b<a then b else a)))
 | _,_=>none
theorem Xi(mx:Bool)(k k':IntKind)(a b:Int):Sj mx (.int k a) (.int k' b)=some (.int k (if mx then(if a<b then b else a)else(if b<a then b else a))):=rfl
def Dg(i:Nat):DV→Option DV|.tup vs=>vs[i]?|_=>none
theorem Tg(i:Nat)(vs:List DV):Dg i (.tup vs)=vs[i]?:=rfl
def Iu:Option aA→Option (DV×aA)
 | some h=>some (.tup [],h)
 | none=>none
theorem Vf(h:aA):Iu (some h)=some (.tup [],h):=rfl
def l8(h:aA)(ety sz:Nat)(x:DV):Option (DV×aA):=if bD sz x then some (.ptr h.n sz 0 0,h.push (.arr ety sz [x] (some 1)))else none
theorem UC{h:aA}{ety sz:Nat}{x:DV}(hs:bD sz x=true):l8 h ety sz x=some (.ptr h.n sz 0 0,h.push (.arr ety sz [x] (some 1))):=if_pos hs
def n9(h:aA):Option (List DV)→Option (DV×aA)
 | some cs=>some (.agg cs,h)
 | none=>none
theorem HD(h:aA)(cs:List DV):n9 h (some cs)=some (.agg cs,h):=rfl
def Jb(h:aA)(ety sz len:Nat):Option (List DV)→Option (DV×aA)
 | some xs=>some (.sl h.n sz 0 len,h.push (.arr ety sz xs (some len)))
 | none=>none
theorem Mn(h:aA)(ety sz len:Nat)(xs:List DV):Jb h ety sz len (some xs)=some (.sl h.n sz 0 len,h.push (.arr ety sz xs (some len))):=rfl
section
variable (h:aA) (env:Env)
theorem QM(x:Opd):aK h env (.move x)=some (x.eval env,h):=rfl
theorem X2(c a b:Opd):aK h env (.pick c a b)=dV h (LP (c.eval env) (a.eval env) (b.eval env)):=by simp only[aK];cases c.eval env<;>rfl
theorem KC(ety sz:Nat)(z:DV):aK h env (.alloc ety sz z)=some (.ptr h.n sz 0 0,h.push (.arr ety sz [z] (some 1))):=rfl
theorem XZ(ety sz:Nat)(x:Opd):aK h env (.box ety sz x)=l8 h ety sz (x.eval env):=rfl
theorem Vo(zero:List DV)(parts:List (Nat×Nat×Opd)):aK h env (.build zero parts)=n9 h (iQ zero (parts.map fun p=>(p.1,p.2.1,p.2.2.eval env))):=by
 simp only[aK];cases iQ zero (parts.map fun p=>(p.1,p.2.1,p.2.2.eval env))<;>rfl
theorem zI(ety sz:Nat)(z:DV)(len:Nat)(parts:List (Nat×Opd)):aK h env (.buildSlice ety sz z len parts)=Jb h ety sz len (dY sz (List.replicate len z) (parts.map fun p=>(p.1,p.2.eval env))):=by
 simp only[aK];cases dY sz (List.replicate len z) (parts.map fun p=>(p.1,p.2.eval env))<;>rfl
theorem X3(n:Option Nat)(a:Opd):aK h env (.load n a)=dV h (lM h n (a.eval env)):=by simp only[aK];cases lM h n (a.eval env)<;>rfl
theorem Vk(n:Nat)(a x:Opd):aK h env (.store n a x)=Iu (kG h n (a.eval env) (x.eval env)):=by simp only[aK];cases kG h n (a.eval env) (x.eval env)<;>rfl
theorem Fp(x:Opd):aK h env (.nilCheck x)=dV h (yJ (x.eval env)):=by simp only[aK];cases x.eval env<;>rfl
theorem Vq(op:BinOp)(x y:Opd):aK h env (.arith op x y)=dV h (cN op (x.eval env) (y.eval env)):=by simp only[aK];cases cN op (x.eval env) (y.eval env)<;>rfl
theorem JZ(neq:Bool)(x y:Opd):aK h env (.eqb neq x y)=dV h (b9 neq (x.eval env) (y.eval env)):=by simp only[aK];cases x.eval env<;>cases y.eval env<;>rfl
theorem KA(neq:Bool)(ks:List Nat)(x y:Opd):aK h env (.eqa neq ks x y)=dV h (Gd neq (jK (.agg ks) (x.eval env) (y.eval env))):=by simp only[aK];cases jK (.agg ks) (x.eval env) (y.eval env)<;>rfl
theorem JY(k:Nat)(neq:Bool)(x y:Opd):aK h env (.eqn k neq x y)=dV h (Gd neq (uC k (x.eval env) (y.eval env))):=by simp only[aK];cases uC k (x.eval env) (y.eval env)<;>rfl
theorem UM(op:UnOp)(x:Opd):aK h env (.un op x)=dV h (unD op (x.eval env)):=by simp only[aK];cases unD op (x.eval env)<;>rfl
theorem X5(k:IntKind)(x:Opd):aK h env (.conv k x)=dV h (ON k (x.eval env)):=by simp only[aK];cases x.eval env<;>rfl
theorem Vp(x:Opd):aK h env (.asStr x)=dV h (S9 (x.eval env)):=by simp only[aK];cases x.eval env<;>rfl
theorem Cb(off:Nat)(x:Opd):aK h env (.fieldAddr off x)=dV h (vR off (x.eval env)):=by simp only[aK];cases x.eval env<;>rfl
theorem Vn(off:Nat)(n:Option Nat)(x:Opd):aK h env (.field off n x)=dV h (Lf off n (x.eval env)):=by
 simp only[aK]
 cases x.eval env with
 | agg cs=>simp only[Lf];cases dM n cs off<;>rfl
 | _=>rfl
theorem Ca(sz:Nat)(x i:Opd):aK h env (.indexAddr sz x i)=dV h (bQ sz (x.eval env) (i.eval env)):=by
 simp only[aK,bQ]
 cases asI (i.eval env)with
 | none=>rfl
 | some n =>
  simp only
  cases x.eval env with
  | sl id eM off len=>simp only;split<;>rfl
  | isl l eM xs =>
   simp only
   split
   ·cases xs[n.toNat]?<;>rfl
   ·rfl
  | _=>rfl
theorem Fs(len esz:Nat)(x i:Opd):aK h env (.indexArr len esz x i)=dV h (Ev len esz (x.eval env) (i.eval env)):=by
 simp only[aK,Ev]
 cases asI (i.eval env)with
 | none=>rfl
 | some n =>
  simp only
  split
  ·cases x.eval env<;>rfl
  ·rfl
theorem Vm(len esz:Nat)(n:Option Nat)(x i:Opd):aK h env (.index len esz n x i)=dV h (O3 len esz n (x.eval env) (i.eval env)):=by
 simp only[aK,O3]
 cases asI (i.eval env)with
 | none=>rfl
 | some m =>
  cases x.eval env with
  | agg cs =>
   simp only
   split
   ·cases dM n cs (m.toNat*esz)<;>rfl
   ·rfl
  | _=>rfl
theorem Fq(x i:Opd):aK h env (.indexStr x i)=dV h (rE (x.eval env) (i.eval env)):=by
 simp only[aK,rE]
 cases asI (i.eval env)with
 | none=>rfl
 | some m =>
  cases x.eval env with
  | str s =>
   simp only
   split
   ·cases s[m.toNat]?<;>rfl
   ·rfl
  | _=>rfl
theorem Fo(x:Opd)(lo hi:Option Opd):aK h env (.sliceStr x lo hi)=dV h (pF (x.eval env) (lo.map (Opd.eval env)) (hi.map (Opd.eval env))):=by
 simp only[aK,pF,Mb]
 cases x.eval env with
 | str s =>
  simp only
  cases dP (hi.map (Opd.eval env)) s.length s.length with
  | none=>rfl
  | some b=>simp only;cases dP (lo.map (Opd.eval env)) 0 b<;>rfl
 | _=>rfl
theorem Ix(sz:Nat)(x:Opd)(lo hi:Option Opd):aK h env (.sliceSl sz x lo hi)=dV h (iH h sz (x.eval env) (lo.map (Opd.eval env)) (hi.map (Opd.eval env))):=by
 simp only[aK,iH,Mb]
 cases x.eval env with
 | nsl =>
  simp only
  cases dP (hi.map (Opd.eval env)) 0 0 with
  | none=>rfl
  | some b=>simp only;cases dP (lo.map (Opd.eval env)) 0 b<;>rfl
 | isl l eM xs =>
  simp only
  split
  ·cases dP (hi.map (Opd.eval env)) xs.length xs.length with
   | none=>rfl
   | some b=>simp only;cases dP (lo.map (Opd.eval env)) 0 b<;>rfl
  ·rfl
 | sl id eM off len =>
  simp only
  cases h.get id with
  | none=>rfl
  | some o =>
   cases o with
   | arr e s xs c =>
    simp only
    split
    ·cases dP (hi.map (Opd.eval env)) len (xs.length-off)with
     | none=>rfl
     | some b=>simp only;cases dP (lo.map (Opd.eval env)) 0 b<;>rfl
    ·rfl
   | _=>rfl
 | _=>rfl
theorem JX(k:Nat)(x:Opd):aK h env (.len k x)=dV h (lenV h k (x.eval env)):=by
 simp only[aK,lenV]
 cases x.eval env with
 | map id =>
  simp only
  cases h.get id with
  | none=>rfl
  | some o=>cases o<;>simp only<;>first|rfl|(split<;>rfl)
 | _=>first|rfl|(simp only;split<;>rfl)
theorem Ns(ety sz bytes:Nat)(s x:Opd):aK h env (.append ety sz bytes s x)=Tv h ety sz bytes (s.eval env) (elems h sz (x.eval env)):=by
 simp only[aK];cases elems h sz (x.eval env)<;>rfl
theorem X4(sz:Nat)(d s:Opd):aK h env (.copy sz d s)=OK h sz (d.eval env) (elems h sz (s.eval env)):=by
 simp only[aK];cases elems h sz (s.eval env)<;>rfl
theorem Nq(mx:Bool)(x y:Opd):aK h env (.minmax mx x y)=dV h (Sj mx (x.eval env) (y.eval env)):=by
 simp only[aK];cases x.eval env<;>cases y.eval env<;>rfl
theorem Vl(f:FuncId)(cap:List Opd):aK h env (.makeFunc f cap)=some (.func f (cap.map (Opd.eval env)),h):=rfl
theorem H6:aK h env .makeMap=some (.map h.n,h.push (.mp [])):=rfl
theorem Iy(x:Opd)(i:Nat):aK h env (.extract x i)=dV h (Dg i (x.eval env)):=by
 simp only[aK]
 cases x.eval env with
 | tup vs=>simp only[Dg];cases vs[i]?<;>rfl
 | _=>rfl
theorem Rd(t:TypeId)(x:Opd):aK h env (.makeIface t x)=some (.iface t (x.eval env),h):=rfl
end
def xM(h:aA):DV→Option (List (DV×DV))
 | .nmap=>some []
 | .map id=>match h.get id with|some (.mp es)=>some es|_=>none
 | _=>none
def yL(q:EqT)(z:DV)(ok:Bool)(k:DV):Option (List (DV×DV))→Option DV
 | some es=>if(jK q k k).isSome then
   match tD q k es with
   | some (some (_,v))=>some (if ok then .tup [v,.bool true]else v)
   | some none=>some (if ok then .tup [z,.bool false]else z)
   | none=>none
  else none
 | none=>none
theorem Nr(h:aA)(env:Env)(q:EqT)(z:DV)(ok:Bool)(m k:Opd):aK h env (.lookup q z ok m k)=dV h (yL q z ok (k.eval env) (xM h (m.eval env))):=by
 have key:∀r:Option (List (DV×DV)),(match r with
   | some es=>if(jK q (k.eval env) (k.eval env)).isSome then
     match tD q (k.eval env) es with
     | some (some (_,v))=>some (if ok then DV.tup [v,.bool true]else v,h)
     | some none=>some (if ok then DV.tup [z,.bool false]else z,h)
     | none=>none
    else none
   | none=>none)=dV h (yL q z ok (k.eval env) r):=by
  intro r
  cases r with
  | none=>rfl
  | some es =>
   simp only[yL]
   split
   ·cases tD q (k.eval env) es with
    | none=>rfl
    | some x=>cases x<;>rfl
   ·rfl
 simp only[aK]
 rw[←key]
 cases m.eval env with
 | map id=>simp only[xM];cases h.get id with
  | none=>rfl
  | some o=>cases o<;>rfl
 | _=>rfl
def Bv(h:aA)(q:EqT)(m k x:DV):Option aA :=
 match m with
 | .map id=>match h.get id with
  | some (.mp es) =>
   if h.lim≤id∧(jK q k k).isSome=true then
    match tD q k es with
    | some (some (i,_))=>some (h.set id (.mp (es.set i (k,x))))
    | some none=>some (h.set id (.mp (es++[(k,x)])))
    | none=>none
   else none
  | _=>none
 | _=>none
theorem Bz(h:aA)(env:Env)(q:EqT)(m k x:Opd):aK h env (.mapUpdate q m k x)=Iu (Bv h q (m.eval env) (k.eval env) (x.eval env)):=by
 simp only[aK,Bv]
 cases m.eval env with
 | map id =>
  simp only
  cases h.get id with
  | none=>rfl
  | some o =>
   cases o with
   | mp es =>
    simp only
    split
    ·cases tD q (k.eval env) es with
     | none=>rfl
     | some y=>cases y with
      | none=>rfl
      | some p=>rfl
    ·rfl
   | _=>rfl
 | _=>rfl
section
variable (c:Nat→List DV→aA→Option (DV×aA)) (h:aA) (env:Env)
end
theorem aT{n:Int}(h1:-9223372036854775808≤n)(h2:n≤9223372036854775807):IntKind.i64.wrap n=n:=by
 exact Go.IntWalk.i64_in n ⟨h1,h2⟩
end Go.Dm
/-
Part 2 of "De": rows of data that are plain lists; rows that a call makes itself; what calls answer.
-/
namespace Go.Dm
def eL{α:Type}(t:Bool)(sz:Nat)(e:α→DV)(xs:List α):DV:=mkIsl t sz (xs.map e)
section eL
variable {α:Type} (t:Bool) (sz:Nat) (e:α→DV) (xs:List α)
theorem iD:eL t sz e []=.isl false 0 []:=rfl
theorem vV(x:α):eL t sz e (x::xs)=.isl t sz (e x::xs.map e):=rfl
theorem VH{xs:List α}(h:xs≠[]):eL t sz e xs=.isl t sz (xs.map e):=by
 cases xs with
 | nil=>exact absurd rfl h
 | cons x xs=>rfl
theorem SM(h:aA):lenV h 1 (eL t sz e xs)=some (.int .i64 xs.length):=by cases xs<;>simp[iD,vV,lenV]
theorem Fm:bD 1 (eL t sz e xs)=true:=by cases xs<;>rfl
theorem Oo:aP 1 (eL t sz e xs)=[eL t sz e xs]:=by cases xs<;>rfl
theorem qF(h:aA):elems h sz (eL t sz e xs)=some (xs.map e):=by cases xs<;>simp[iD,vV,elems]
theorem Nb{xs:List α}(k:IntKind){i:Nat}{a:α}(ha:xs[i]?=some a):bQ sz (eL t sz e xs) (.int k (i:Int))=some (.iptr t (aP sz (e a)) 0):=by
 have eG:xs≠[]:=by intro h0;subst h0;simp at ha
 rw[VH t sz e eG]
 simp[bQ,asI,ha]
theorem Kh{xs:List α}(k:IntKind){i:Int}{a:α}(h0:0≤i)(ha:xs[i.toNat]?=some a):bQ sz (eL t sz e xs) (.int k i)=some (.iptr t (aP sz (e a)) 0):=by
 obtain⟨n,rfl⟩:=Int.eq_ofNat_of_zero_le h0
 exact Nb t sz e k ha
end eL
def jP(k:Nat)(d:DV):Prop:=∀tag h n,k≤n→resolve tag h n d=some d
def Unl(k:Nat)(d:DV):Prop:=∀n,k≤n→bI n d=true
theorem jP.mono{k m:Nat}{d:DV}(h:jP k d)(hk:k≤m):jP m d:=fun t hp n hn=>h t hp n (Nat.le_trans hk hn)
theorem Unl.mono{k m:Nat}{d:DV}(h:Unl k d)(hk:k≤m):Unl m d:=fun n hn=>h n (Nat.le_trans hk hn)
theorem cL{k n:Nat}(h:k+1≤n):∃ m,n=m+1∧k≤m:=⟨n-1,by omega,by omega⟩
theorem fL(k:IntKind)(n:Int):jP 1 (.int k n):=fun t h m hm=>by obtain⟨q,rfl,_⟩:=cL hm;rfl
theorem rG(b:Bool):jP 1 (.bool b):=fun t h m hm=>by obtain⟨q,rfl,_⟩:=cL hm;rfl
theorem Dc(s:List UInt8):jP 1 (.str s):=fun t h m hm=>by obtain⟨q,rfl,_⟩:=cL hm;rfl
theorem FO(l:Bool)(cs:List DV)(o:Nat):jP 1 (.iptr l cs o):=fun t h m hm=>by obtain⟨q,rfl,_⟩:=cL hm;rfl
theorem gS{α:Type}(t:Bool)(sz:Nat)(e:α→DV)(xs:List α):jP 1 (eL t sz e xs):=fun tg h m hm=>by
 obtain⟨q,rfl,_⟩:=cL hm
 cases xs<;>rfl
theorem pJ{f:DV→Option DV}:∀{cs:List DV},(∀x∈cs,f x=some x)→cs.mapM f=some cs:=by
 intro cs
 induction cs with
 | nil=>intro _;rfl
 | cons x r ih =>
  intro h
  rw[List.mapM_cons,h x (List.mem_cons_self ..),ih (fun y hy=>h y (List.mem_cons_of_mem _ hy))];rfl
theorem Dd{k:Nat}{cs:List DV}(h:∀x∈cs,jP k x):jP (k+1) (.agg cs):=fun t hp m hm=>by
 obtain⟨q,rfl,hq⟩:=cL hm
 have:cs.mapM (resolve t hp q)=some cs:=pJ fun x hx=>h x hx t hp q hq
 simp only[resolve,this]
theorem FP{k:Nat}{f:Nat}{cs:List DV}(h:∀x∈cs,jP k x):jP (k+1) (.func f cs):=fun t hp m hm=>by
 obtain⟨q,rfl,hq⟩:=cL hm
 have:cs.mapM (resolve t hp q)=some cs:=pJ fun x hx=>h x hx t hp q hq
 simp only[resolve,this]
theorem lC(k:IntKind)(n:Int):Unl 1 (.int k n):=fun m hm=>by obtain⟨q,rfl,_⟩:=cL hm;rfl
theorem wP(b:Bool):Unl 1 (.bool b):=fun m hm=>by obtain⟨q,rfl,_⟩:=cL hm;rfl
theorem uY(s:List UInt8):Unl 1 (.str s):=fun m hm=>by obtain⟨q,rfl,_⟩:=cL hm;rfl
theorem Oy{k:Nat}{cs:List DV}(h:∀x∈cs,Unl k x):Unl (k+1) (.agg cs):=fun m hm=>by
 obtain⟨q,rfl,hq⟩:=cL hm
 simp only[bI,List.all_eq_true]
 exact fun x hx=>h x hx q hq
theorem eS{α:Type}{k sz:Nat}{e:α→DV}{xs:List α}(h:∀x∈xs,Unl k (e x)):Unl (k+1) (eL false sz e xs):=fun m hm=>by
 obtain⟨q,rfl,hq⟩:=cL hm
 cases xs with
 | nil=>rfl
 | cons x r =>
  simp only[vV,bI,Bool.not_false,Bool.true_and,List.all_eq_true]
  intro y hy
  rw[←List.map_cons (f:=e)]at hy
  obtain⟨z,hz,rfl⟩:=List.mem_map.1 hy
  exact h z hz q hq
class Plain {α:Type} (e:α→DV):Prop where
 flat:∀x,jP 20 (e x)
 unl:∀x,Unl 20 (e x)
inductive Own(lo:Nat)(h:aA)(v:DV)(ety sz:Nat)(xs:List DV):Prop where
 | nil (hv:v=.nsl) (hx:xs=[])
 | arr (id:Nat) (hv:v=.sl id sz 0 xs.length) (hg:h.get id=some (.arr ety sz xs none)) (aL:h.lim≤id) (dS:lo≤id)
structure Ext(lo:Nat)(h h':aA):Prop where
 le:lo≤h'.n
 lim:h'.lim=h.lim
 get:∀id,id<lo→h'.get id=h.get id
 wf:WF h'
theorem Ext.refl{lo:Nat}{h:aA}(dH:lo≤h.n)(w:WF h):Ext lo h h:=⟨dH,rfl,fun _ _=>rfl,w⟩
theorem Ext.trans{lo:Nat}{a b c:aA}(x:Ext lo a b)(y:Ext lo b c):Ext lo a c:=⟨y.le,y.lim.trans x.lim,fun id fI=>(y.get id fI).trans (x.get id fI),y.wf⟩
theorem Ext.push{lo:Nat}{h h':aA}{o:DO}(x:Ext lo h h'):Ext lo h (h'.push o) :=
 ⟨Nat.le_succ_of_le x.le,x.lim,fun id fI=>by rw[cM,if_neg (by have:=x.le;omega)];exact x.get id fI,x.wf.push⟩
theorem Ext.set{lo:Nat}{h h':aA}{id:Nat}{o:DO}(x:Ext lo h h')(fI:lo≤id)(bC:id<h'.n):Ext lo h (h'.set id o) :=
 ⟨x.le,x.lim,fun k hk=>by rw[bY x.wf bC,if_neg (by omega)];exact x.get k hk,x.wf.set⟩
theorem Own.push{lo:Nat}{h:aA}{o:DO}{v:DV}{ety sz:Nat}{xs:List DV}(w:Own lo h v ety sz xs):Own lo (h.push o) v ety sz xs:=by
 cases w with
 | nil hv hx=>exact .nil hv hx
 | arr id hv hg aL dS =>
  refine .arr id hv ?_ aL dS
  rw[cM,if_neg (by have:=bB hg;omega)];exact hg
theorem Own.start(lo:Nat)(h:aA)(ety sz:Nat):Own lo h .nsl ety sz []:=.nil rfl rfl
theorem Own.append{lo:Nat}{h:aA}{v:DV}{ety sz bytes:Nat}{xs ys:List DV}{A:Option (DV×aA)}(w:Own lo h v ety sz xs)(wf:WF h)(dS:lo≤h.n)(aL:h.lim≤h.n)(hA:aY h ety sz bytes v ys=A)
  (hb:(xs.length+ys.length)*bytes≤140737488355328) (Bt:1≤bytes):∃ v' h',A=some (v',h')∧Own lo h' v' ety sz (xs++ys)∧Ext lo h h':=by
 have hm:xs.length+ys.length≤140737488355328:=Nat.le_trans (Nat.le_mul_of_pos_right _ Bt) hb
 by_cases hy:ys=[]
 ·subst hy
  refine⟨v,h,?_,by simpa using w,.refl dS wf⟩
  rw[←hA]
  cases w with
  | nil hv hx=>subst hv;rfl
  | arr id hv hg _ _=>subst hv;rfl
 ·have So:ys.isEmpty=false:=by cases ys<;>simp_all
  have ZJ:0<ys.length:=List.length_pos_iff.2 hy
  cases w with
  | nil hv hx =>
   subst hv;subst hx
   simp only[List.length_nil,Nat.zero_add]at hb hm
   refine⟨.sl h.n sz 0 ys.length,h.push (.arr ety sz ys none),?_,.arr h.n rfl cR (by exact aL) dS,(Ext.refl dS wf).push⟩
   rw[←hA]
   simp only[aY,So]
   rw[if_neg (by simp),if_pos ⟨hb,by omega⟩]
  | arr id hv hg hl hi =>
   subst hv
   have bC:=bB hg
   have e2:(h.set id DO.dead).n=h.n:=rfl
   refine⟨.sl h.n sz 0 (xs.length+ys.length),(h.set id .dead).push (.arr ety sz (xs++ys) none),?_,.arr h.n (by simp) ?_ (by exact aL) dS,(((Ext.refl dS wf).set hi bC).push)⟩
   ·rw[←hA]
    simp only[aY,So,hg]
    simp only[Bool.false_eq_true,if_false,true_and,Nat.zero_add,Nat.le_refl]
    rw[if_pos ⟨hb,by omega⟩,if_neg (by omega),if_pos hl]
    simp
   ·exact cR
end Go.Dm
/-
Part 3 of "De": what own rows show; what a pure call hands back; the program's data by plain structures.
-/
namespace Go.Dm
section Own
variable {lo:Nat} {h:aA} {v:DV} {ety sz:Nat} {xs:List DV}
theorem Own.lenV(w:Own lo h v ety sz xs):lenV h 1 v=some (.int .i64 xs.length):=by
 cases w with
 | nil hv hx=>subst hv;subst hx;rfl
 | arr id hv hg hl hi=>subst hv;rfl
theorem Own.elems(w:Own lo h v ety sz xs):elems h sz v=some xs:=by
 cases w with
 | nil hv hx=>subst hv;subst hx;rfl
 | arr id hv hg hl hi=>subst hv;simp[Dm.elems,hg]
theorem Own.ext{lo:Nat}{h h':aA}(w:Own lo h v ety sz xs)(x:Ext h.n h h'):Own lo h' v ety sz xs:=by
 cases w with
 | nil hv hx=>exact .nil hv hx
 | arr id hv hg hl hi=>exact .arr id hv ((x.get id (bB hg)).trans hg) (by rw[x.lim];exact hl) hi
theorem Own.resolve{α:Type}{e:α→DV}{ys:List α}{k n:Nat}(tag:Bool)(w:Own lo h v ety sz (ys.map e))(hf:∀y∈ys,jP k (e y))(hn:k+1≤n):resolve tag h n v=some (eL tag sz e ys):=by
 obtain⟨m,rfl,hm⟩:=cL hn
 cases w with
 | nil hv hx =>
  subst hv
  cases ys with
  | nil=>rfl
  | cons y r=>simp at hx
 | arr id hv hg hl hi =>
  subst hv
  have Du:(ys.map e).mapM (Dm.resolve tag h m)=some (ys.map e):=pJ fun x hx=>by
   obtain⟨y,hy,rfl⟩:=List.mem_map.1 hx
   exact hf y hy tag h m hm
  simp only[Dm.resolve,hg,true_and,Nat.zero_add,Nat.le_refl,if_true,List.drop_zero,List.take_length,Du]
  rfl
end Own
theorem Wu{v d:DV}{h:aA}{k:Nat}(hr:resolve false h cY v=some d)(hu:Unl k d)(hk:k≤200):cW (some (v,h))=some d:=by
 simp only[cW,hr,hu cY hk,if_true]
theorem Wj{tag:Bool}{h:aA}{n:Nat}{vs ds:List DV}(hr:vs.mapM (resolve tag h n)=some ds):resolve tag h (n+1) (.tup vs)=some (.tup ds):=by
 simp only[resolve,hr]
theorem B8{n:Nat}{vs:List DV}(hr:∀d∈vs,bI n d=true):bI (n+1) (.tup vs)=true:=by
 simp only[bI,List.all_eq_true];exact hr
theorem EF{h:aA}{vs ds:List DV}{k:Nat}(hr:vs.mapM (resolve false h 199)=some ds)(hu:∀d∈ds,Unl k d)(hk:k≤199):cW (some (.tup vs,h))=some (.tup ds):=by
 have e:resolve false h cY (.tup vs)=some (.tup ds):=Wj hr
 have u:bI cY (.tup ds)=true:=B8 fun d hd=>hu d hd 199 hk
 simp only[cW,e,u,if_true]
theorem Own.out{lo:Nat}{h:aA}{v:DV}{ety sz:Nat}{α:Type}{e:α→DV}{ys:List α}{k:Nat}(w:Own lo h v ety sz (ys.map e))(hf:∀y∈ys,jP k (e y))(hu:∀y∈ys,Unl k (e y))(hk:k≤198) :
  cW (some (v,h))=some (eL false sz e ys) :=
 Wu (k:=k+1) (w.resolve false hf (by show k+1≤200;omega)) (eS hu) (by omega)
theorem AO{D:cX}{f:Nat}{df:aQ}(hh:D.hook f=none)(hf:D.fn f=some df)(args:List DV)(h:aA):fc D f args h=dU (ev D) df args h:=by
 rw[Ym,hh,hf]
theorem GE{α:Type}{xs:List α}{i:Nat}{a:α}{r:List α}(h:xs.drop i=a::r):i<xs.length∧xs[i]?=some a∧xs.drop (i+1)=r:=by
 have h1:i<xs.length:=by
  by_cases bC:i<xs.length
  ·exact bC
  ·rw[List.drop_eq_nil_of_le (by omega)]at h;cases h
 rw[List.drop_eq_getElem_cons h1]at h
 injection h with h2 h3
 exact⟨h1,by rw[List.getElem?_eq_getElem h1,h2],h3⟩
theorem bR{α:Type}{xs:List α}{i:Nat}{a:α}{r:List α}(h:xs.drop i=a::r):∃ hi:i<xs.length,xs[i]=a∧xs.drop (i+1)=r:=by
 obtain⟨h1,h2,h3⟩:=GE h
 exact⟨h1,by rw[List.getElem?_eq_getElem h1]at h2;injection h2,h3⟩
theorem bH{α:Type}{xs:List α}{i:Nat}(h:xs.drop i=[]):xs.length≤i:=List.drop_eq_nil_iff.1 h
structure ID where
 aW:Int
 seq:Int
 deriving DecidableEq,Inhabited
structure Val where
 isText:Bool
 n:Int
 text:List UInt8
 deriving DecidableEq,Inhabited
structure Att where
 name:List UInt8
 val:Val
 deriving DecidableEq,Inhabited
structure eQ where
 name:List UInt8
 kind:Int
 lo:Int
 hi:Int
 text:List UInt8
 deriving DecidableEq,Inhabited
abbrev bJ:=List eQ
structure bG where
 id:ID
 pred:bJ
 bN:Int
 deriving DecidableEq,Inhabited
structure aX where
 tree:ID
 sub:ID
 pred:bJ
 bK:Int
 up:Bool
 deriving DecidableEq,Inhabited
structure fT where
 id:ID
 pred:bJ
 deriving DecidableEq,Inhabited
structure aH where
 me:Int
 aM:List Int
 aR:List bG
 seen:List ID
 entries:List aX
 bT:List fT
 deriving DecidableEq,Inhabited
structure Msg where
 kind:Int
 tree:ID
 id:ID
 pred:bJ
 gN:List Att
 deriving DecidableEq,Inhabited
structure Out where
 to:Int
 m:Msg
 deriving DecidableEq,Inhabited
def bO(n:Int):DV:=.int .i64 n
def Bg(s:List UInt8):DV:=.str s
def uQ(v:Val):DV:=.agg [.bool v.isText,.int .i64 v.n,.str v.text]
def gC(a:Att):DV:=.agg [.str a.name,.bool a.val.isText,.int .i64 a.val.n,.str a.val.text]
def aO(c:eQ):DV:=.agg [.str c.name,.int .i64 c.kind,.int .i64 c.lo,.int .i64 c.hi,.str c.text]
def bE(p:bJ):DV:=eL false 5 aO p
def eID(x:ID):DV:=.agg [.int .i64 x.aW,.int .i64 x.seq]
def aG(a:bG):DV:=.agg [.int .i64 a.id.aW,.int .i64 a.id.seq,bE a.pred,.int .i64 a.bN]
def aD(e:aX):DV:=.agg [.int .i64 e.tree.aW,.int .i64 e.tree.seq,.int .i64 e.sub.aW,.int .i64 e.sub.seq,bE e.pred,.int .i64 e.bK,.bool e.up]
def cP(o:fT):DV:=.agg [.int .i64 o.id.aW,.int .i64 o.id.seq,bE o.pred]
structure dA where
 aM:Bool
 aR:Bool
 seen:Bool
 entries:Bool
 bT:Bool
def dA.none:dA:=⟨false,false,false,false,false⟩
def aE(t:dA)(b:aH):DV:=.agg [.int .i64 b.me,eL t.aM 1 bO b.aM,eL t.aR 4 aG b.aR,eL t.seen 2 eID b.seen,eL t.entries 7 aD b.entries,eL t.bT 3 cP b.bT]
def vU(m:Msg):DV:=.agg [.int .i64 m.kind,.int .i64 m.tree.aW,.int .i64 m.tree.seq,.int .i64 m.id.aW,.int .i64 m.id.seq,bE m.pred,eL false 4 gC m.gN]
def fY(o:Out):DV:=.agg [.int .i64 o.to,.int .i64 o.m.kind,.int .i64 o.m.tree.aW,.int .i64 o.m.tree.seq,.int .i64 o.m.id.aW,.int .i64 o.m.id.seq,bE o.m.pred,eL false 4 gC o.m.gN]
theorem ED:Plain bO:=⟨fun _=>(fL _ _).mono (by decide),fun _=>(lC _ _).mono (by decide)⟩
theorem Ai:Plain aO:=⟨fun c=>(Dd (k:=1) (by
  intro x hx;simp only[List.mem_cons,List.not_mem_nil,or_false]at hx
  rcases hx with rfl|rfl|rfl|rfl|rfl<;>first|exact fL _ _|exact Dc _)).mono (by decide),fun c=>(Oy (k:=1) (by
  intro x hx;simp only[List.mem_cons,List.not_mem_nil,or_false]at hx
  rcases hx with rfl|rfl|rfl|rfl|rfl<;>first|exact lC _ _|exact uY _)).mono (by decide)⟩
theorem tT(p:bJ):Unl 21 (bE p):=eS fun x _=>Ai.unl x
theorem Fa(p:bJ):jP 1 (bE p):=gS false 5 aO p
end Go.Dm
/-
Part 4 of "De": the words by which 'simp' walks.
-/
namespace Go.Dm
theorem Wv(D:cX)(g:Opd)(args:List Opd)(env:Env)(h:aA):cC (fc D) (.call g args) env h=AS D (args.map (Opd.eval env)) h (g.eval env):=M3 D h g args env
section
variable (c:Nat→List DV→aA→Option (DV×aA)) (h:aA) (env:Env)
theorem RX(x:Opd):cC c (.move x) env h=some (x.eval env,h):=rfl
theorem RW(x a b:Opd):cC c (.pick x a b) env h=dV h (LP (x.eval env) (a.eval env) (b.eval env)):=X2 ..
theorem LY(ety sz:Nat)(z:DV):cC c (.alloc ety sz z) env h=some (.ptr h.n sz 0 0,h.push (.arr ety sz [z] (some 1))):=rfl
theorem YU(ety sz:Nat)(x:Opd):cC c (.box ety sz x) env h=l8 h ety sz (x.eval env):=rfl
theorem LV(zero:List DV)(parts:List (Nat×Nat×Opd)):cC c (.build zero parts) env h=n9 h (iQ zero (parts.map fun p=>(p.1,p.2.1,p.2.2.eval env))):=Vo ..
theorem Mw(ety sz:Nat)(z:DV)(len:Nat)(parts:List (Nat×Opd)):cC c (.buildSlice ety sz z len parts) env h=Jb h ety sz len (dY sz (List.replicate len z) (parts.map fun p=>(p.1,p.2.eval env))):=zI ..
theorem RY(n:Option Nat)(a:Opd):cC c (.load n a) env h=dV h (lM h n (a.eval env)):=X3 ..
theorem LR(n:Nat)(a x:Opd):cC c (.store n a x) env h=Iu (kG h n (a.eval env) (x.eval env)):=Vk ..
theorem Wx(x:Opd):cC c (.nilCheck x) env h=dV h (yJ (x.eval env)):=Fp ..
theorem LX(op:BinOp)(x y:Opd):cC c (.arith op x y) env h=dV h (cN op (x.eval env) (y.eval env)):=Vq ..
theorem YR(neq:Bool)(x y:Opd):cC c (.eqb neq x y) env h=dV h (b9 neq (x.eval env) (y.eval env)):=JZ ..
theorem YS(neq:Bool)(ks:List Nat)(x y:Opd):cC c (.eqa neq ks x y) env h=dV h (Gd neq (jK (.agg ks) (x.eval env) (y.eval env))):=KA ..
theorem YQ(k:Nat)(neq:Bool)(x y:Opd):cC c (.eqn k neq x y) env h=dV h (Gd neq (uC k (x.eval env) (y.eval env))):=JY ..
theorem AbJ(op:UnOp)(x:Opd):cC c (.un op x) env h=dV h (unD op (x.eval env)):=UM ..
theorem SA(k:IntKind)(x:Opd):cC c (.conv k x) env h=dV h (ON k (x.eval env)):=X5 ..
theorem LW(x:Opd):cC c (.asStr x) env h=dV h (S9 (x.eval env)):=Vp ..
theorem Sd(off:Nat)(x:Opd):cC c (.fieldAddr off x) env h=dV h (vR off (x.eval env)):=Cb ..
theorem LU(off:Nat)(n:Option Nat)(x:Opd):cC c (.field off n x) env h=dV h (Lf off n (x.eval env)):=Vn ..
theorem Sc(sz:Nat)(x i:Opd):cC c (.indexAddr sz x i) env h=dV h (bQ sz (x.eval env) (i.eval env)):=Ca ..
theorem Xa(len esz:Nat)(x i:Opd):cC c (.indexArr len esz x i) env h=dV h (Ev len esz (x.eval env) (i.eval env)):=Fs ..
theorem LT(len esz:Nat)(n:Option Nat)(x i:Opd):cC c (.index len esz n x i) env h=dV h (O3 len esz n (x.eval env) (i.eval env)):=Vm ..
theorem Wz(x i:Opd):cC c (.indexStr x i) env h=dV h (rE (x.eval env) (i.eval env)):=Fq ..
theorem Ww(x:Opd)(lo hi:Option Opd):cC c (.sliceStr x lo hi) env h=dV h (pF (x.eval env) (lo.map (Opd.eval env)) (hi.map (Opd.eval env))):=Fo ..
theorem M4(sz:Nat)(x:Opd)(lo hi:Option Opd):cC c (.sliceSl sz x lo hi) env h=dV h (iH h sz (x.eval env) (lo.map (Opd.eval env)) (hi.map (Opd.eval env))):=Ix ..
theorem YP(k:Nat)(x:Opd):cC c (.len k x) env h=dV h (lenV h k (x.eval env)):=JX ..
theorem EK(ety sz bytes:Nat)(s x:Opd):cC c (.append ety sz bytes s x) env h=Tv h ety sz bytes (s.eval env) (elems h sz (x.eval env)):=Ns ..
theorem RZ(sz:Nat)(d s:Opd):cC c (.copy sz d s) env h=OK h sz (d.eval env) (elems h sz (s.eval env)):=X4 ..
theorem EI(mx:Bool)(x y:Opd):cC c (.minmax mx x y) env h=dV h (Sj mx (x.eval env) (y.eval env)):=Nq ..
theorem Wy(f:FuncId)(cap:List Opd):cC c (.makeFunc f cap) env h=some (.func f (cap.map (Opd.eval env)),h):=rfl
theorem M5:cC c .makeMap env h=some (.map h.n,h.push (.mp [])):=rfl
theorem M6(x:Opd)(i:Nat):cC c (.extract x i) env h=dV h (Dg i (x.eval env)):=Iy ..
theorem Sb(t:TypeId)(x:Opd):cC c (.makeIface t x) env h=some (.iface t (x.eval env),h):=rfl
theorem EJ(q:EqT)(z:DV)(ok:Bool)(m k:Opd):cC c (.lookup q z ok m k) env h=dV h (yL q z ok (k.eval env) (xM h (m.eval env))):=Nr ..
theorem Sa(q:EqT)(m k x:Opd):cC c (.mapUpdate q m k x) env h=Iu (Bv h q (m.eval env) (k.eval env) (x.eval env)):=Bz ..
end
theorem PS(f:cT)(d i:Nat)(v:DV):upd f d v i=if i=d then v else f i:=rfl
theorem OW(args:List DV)(i:Nat):OX args i=args.getD i cF:=rfl
theorem DY(f:cT)(d:Nat)(v:DV):tY f (some d) v=upd f d v:=rfl
theorem DZ(f:cT)(v:DV):tY f none v=f:=rfl
theorem AbF(N:Nat)(f:cT)(i:Nat):rd N f i=if i<N then f i else .unk:=rfl
theorem N6(h:aA)(n:Option Nat)(l:Bool)(cs:List DV)(off:Nat):lM h n (.iptr l cs off)=dM n cs off:=rfl
theorem AbI(cs:List DV)(off:Nat):dM none cs off=cs[off]?:=rfl
theorem AbH(n:Nat)(cs:List DV)(off:Nat):dM (some n) cs off=if off+n≤cs.length then some (.agg ((cs.drop off).take n))else none:=rfl
theorem Rb(n:Nat)(cs:List DV):bD n (.agg cs)=(cs.length == n):=rfl
theorem Ra(n:Nat)(k:IntKind)(m:Int):bD n (.int k m)=(n == 1):=rfl
theorem Ml(n:Nat)(b:Bool):bD n (.bool b)=(n == 1):=rfl
theorem Qv(n:Nat)(s:List UInt8):bD n (.str s)=(n == 1):=rfl
theorem Qw(n a b c d:Nat):bD n (.ptr a b c d)=(n == 1):=rfl
theorem Vi(n a b c d:Nat):bD n (.sl a b c d)=(n == 1):=rfl
theorem Qx(n:Nat):bD n .nsl=(n == 1):=rfl
theorem Qz(n:Nat)(t:Bool)(s:Nat)(xs:List DV):bD n (.isl t s xs)=(n == 1):=rfl
theorem Mk(n:Nat)(f:Nat)(cs:List DV):bD n (.func f cs)=(n == 1):=rfl
theorem Qy(n:Nat)(i:Nat):bD n (.map i)=(n == 1):=rfl
theorem Iv(n:Nat)(t:Nat)(d:DV):bD n (.iface t d)=(n == 1):=rfl
theorem Mj(n:Nat):bD n .nili=(n == 1):=rfl
theorem Mi(n:Nat):bD n .nilp=(n == 1):=rfl
theorem Mh(p:bJ):bD 1 (bE p)=true:=Fm ..
theorem IJ(sz n:Nat)(e x:DV)(h:n=sz):turn sz 0 n e x=x:=by simp[turn,h]
theorem Zt(a b:Int):cN .add (.int .i64 a) (.int .i64 b)=some (.int .i64 (IntKind.i64.wrap (a+b))):=by simp[cN]
theorem Zr(a b:Int):cN .sub (.int .i64 a) (.int .i64 b)=some (.int .i64 (IntKind.i64.wrap (a-b))):=by simp[cN]
theorem Zs(a b:Int):cN .mul (.int .i64 a) (.int .i64 b)=some (.int .i64 (IntKind.i64.wrap (a*b))):=by simp[cN]
theorem GZ(k:IntKind)(a b:Int):cN .eql (.int k a) (.int k b)=some (.bool (a == b)):=by simp[cN]
theorem GU(k:IntKind)(a b:Int):cN .neq (.int k a) (.int k b)=some (.bool (a != b)):=by simp[cN]
theorem GV(k:IntKind)(a b:Int):cN .lss (.int k a) (.int k b)=some (.bool (decide (a<b))):=by simp[cN]
theorem GW(k:IntKind)(a b:Int):cN .leq (.int k a) (.int k b)=some (.bool (decide (a≤b))):=by simp[cN]
theorem GX(k:IntKind)(a b:Int):cN .gtr (.int k a) (.int k b)=some (.bool (decide (b<a))):=by simp[cN]
theorem GY(k:IntKind)(a b:Int):cN .geq (.int k a) (.int k b)=some (.bool (decide (b≤a))):=by simp[cN]
theorem GT(a b:List UInt8):cN .eql (.str a) (.str b)=some (.bool (a == b)):=rfl
theorem GO(a b:List UInt8):cN .neq (.str a) (.str b)=some (.bool (!(a == b))):=rfl
theorem GP(a b:List UInt8):cN .lss (.str a) (.str b)=some (.bool (Go.Op.bytesLess a b)):=rfl
theorem GQ(a b:List UInt8):cN .leq (.str a) (.str b)=some (.bool (Go.Op.bytesLess a b || a == b)):=rfl
theorem GR(a b:List UInt8):cN .gtr (.str a) (.str b)=some (.bool (!(Go.Op.bytesLess a b || a == b))):=rfl
theorem GS(a b:List UInt8):cN .geq (.str a) (.str b)=some (.bool (!Go.Op.bytesLess a b)):=rfl
theorem VP(b:Bool):unD .not (.bool b)=some (.bool (!b)):=rfl
theorem VQ(k:IntKind)(n:Int):unD .neg (.int k n)=some (.int k (k.wrap (0-n))):=rfl
theorem NZ(ks:List Nat)(xs ys:List DV):jK (.agg ks) (.agg xs) (.agg ys)=cV ks xs ys:=rfl
theorem uP(k:Nat)(x y:DV):jK (.prim k) x y=iR k x y:=rfl
theorem Zl:cV [] [] []=some true:=rfl
theorem Zm(ks:List Nat)(a b:Int)(k:IntKind)(xs ys:List DV):cV (1::ks) (.int k a::xs) (.int k b::ys)=(cV ks xs ys).map ((a == b) && ·):=by
 simp only[cV,iR,and_self,if_true];cases cV ks xs ys<;>rfl
theorem Zk(ks:List Nat)(a b:List UInt8)(xs ys:List DV):cV (2::ks) (.str a::xs) (.str b::ys)=(cV ks xs ys).map ((a == b) && ·):=by
 simp only[cV,iR,if_true];cases cV ks xs ys<;>rfl
theorem Tp(ks:List Nat)(a b:Bool)(xs ys:List DV):cV (0::ks) (.bool a::xs) (.bool b::ys)=(cV ks xs ys).map ((a == b) && ·):=by
 simp only[cV,iR,if_true];cases cV ks xs ys<;>rfl
theorem L6(k:IntKind)(a b:Int):iR 1 (.int k a) (.int k b)=some (a == b):=by simp[iR]
theorem rO(a b:List UInt8):iR 2 (.str a) (.str b)=some (a == b):=by simp[iR]
theorem Wq(a b:Bool):iR 0 (.bool a) (.bool b)=some (a == b):=by simp[iR]
theorem NV(cs:List DV):iQ cs []=some cs:=rfl
theorem FS(cs:List DV)(off n:Nat)(v:DV)(r:List (Nat×Nat×DV))(hs:bD n v=true)(ho:off+n≤cs.length):iQ cs ((off,n,v)::r)=iQ (cs.take off++aP n v++cs.drop (off+n)) r:=by
 simp[iQ,hs,ho]
theorem FT(sz:Nat)(xs:List DV):dY sz xs []=some xs:=rfl
theorem Q6(sz:Nat)(xs:List DV)(i:Nat)(v:DV)(r:List (Nat×DV))(hs:bD sz v=true)(hi:i<xs.length):dY sz xs ((i,v)::r)=dY sz (xs.set i v) r:=by
 simp[dY,hs,hi]
theorem Yv(sz:Nat)(cs:List DV):aP sz (.agg cs)=cs:=rfl
theorem R6(sz:Nat)(k:IntKind)(n:Int):aP sz (.int k n)=[.int k n]:=rfl
theorem Yu(sz:Nat)(n:Bool):aP sz (.bool n)=[.bool n]:=rfl
theorem Q9(sz:Nat)(n:List UInt8):aP sz (.str n)=[.str n]:=rfl
theorem R1(sz:Nat):aP sz .nsl=[.nsl]:=rfl
theorem GA(sz a b c d:Nat):aP sz (.sl a b c d)=[.sl a b c d]:=rfl
theorem R0(sz a b c d:Nat):aP sz (.ptr a b c d)=[.ptr a b c d]:=rfl
theorem R5(sz:Nat)(t:Bool)(s:Nat)(xs:List DV):aP sz (.isl t s xs)=[.isl t s xs]:=rfl
theorem Yt(sz:Nat)(f:Nat)(cs:List DV):aP sz (.func f cs)=[.func f cs]:=rfl
theorem R4(sz:Nat)(i:Nat):aP sz (.map i)=[.map i]:=rfl
theorem Tj(sz t:Nat)(d:DV):aP sz (.iface t d)=[.iface t d]:=rfl
theorem Ys(sz:Nat):aP sz .nili=[.nili]:=rfl
theorem Yr(sz:Nat):aP sz .nilp=[.nilp]:=rfl
theorem Yq(p:bJ):aP 1 (bE p)=[bE p]:=Oo ..
theorem FY(h:aA)(sz:Nat):elems h sz .nsl=some []:=rfl
def MT(n:Option Nat)(sz off:Nat):Option DV→Option DV|some e=>dM n (aP sz e) off|none=>none
theorem N8(n:Option Nat)(sz off:Nat)(e:DV):MT n sz off (some e)=dM n (aP sz e) off:=rfl
def MS(n:Option Nat)(sz idx off:Nat):Option DO→Option DV
 | some (.arr _ eM xs _)=>if sz=eM then MT n sz off xs[idx]? else none
 | _=>none
theorem N7(n:Option Nat)(sz idx off ety eM:Nat)(xs:List DV)(cap:Option Nat):MS n sz idx off (some (.arr ety eM xs cap))=if sz=eM then MT n sz off xs[idx]? else none:=rfl
theorem MR(h:aA)(n:Option Nat)(id sz idx off:Nat):lM h n (.ptr id sz idx off)=MS n sz idx off (h.get id):=by
 simp only[lM,MS]
 cases h.get id with
 | none=>rfl
 | some o=>cases o with
  | arr e s xs c =>
   simp only
   split
   ·cases xs[idx]?<;>rfl
   ·rfl
  | _=>rfl
def G9(h:aA)(n id sz idx off ety:Nat)(xs:List DV)(cap:Option Nat)(x:DV):Option DV→Option aA
 | some e=>if(aP sz e).length=sz then some (h.set id (.arr ety sz (xs.set idx (turn sz off n e x)) cap))else none
 | none=>none
theorem Vh(h:aA)(n id sz idx off ety:Nat)(xs:List DV)(cap:Option Nat)(x e:DV):G9 h n id sz idx off ety xs cap x (some e)=if(aP sz e).length=sz then some (h.set id (.arr ety sz (xs.set idx (turn sz off n e x)) cap))else none:=rfl
def G8(h:aA)(n id sz idx off:Nat)(x:DV):Option DO→Option aA
 | some (.arr ety eM xs cap)=>if sz=eM∧h.lim≤id∧bD n x=true∧off+n≤sz then G9 h n id sz idx off ety xs cap x xs[idx]? else none
 | _=>none
theorem Vg(h:aA)(n id sz idx off:Nat)(x:DV)(ety eM:Nat)(xs:List DV)(cap:Option Nat):G8 h n id sz idx off x (some (.arr ety eM xs cap))=if sz=eM∧h.lim≤id∧bD n x=true∧off+n≤sz then G9 h n id sz idx off ety xs cap x xs[idx]? else none:=rfl
theorem CU(h:aA)(n id sz idx off:Nat)(x:DV):kG h n (.ptr id sz idx off) x=G8 h n id sz idx off x (h.get id):=by
 simp only[kG,G8]
 cases h.get id with
 | none=>rfl
 | some o=>cases o with
  | arr e s xs c =>
   simp only
   split
   ·cases xs[idx]?<;>rfl
   ·rfl
  | _=>rfl
def Ti(sz eM off len:Nat):Option DO→Option (List DV)
 | some (.arr _ nR xs _)=>if sz=eM∧sz=nR∧off+len≤xs.length then some ((xs.drop off).take len)else none
 | _=>none
theorem xP(sz eM off len ety nR:Nat)(xs:List DV)(cap:Option Nat):Ti sz eM off len (some (.arr ety nR xs cap))=if sz=eM∧sz=nR∧off+len≤xs.length then some ((xs.drop off).take len)else none:=rfl
theorem OA(h:aA)(sz id eM off len:Nat):elems h sz (.sl id eM off len)=Ti sz eM off len (h.get id):=by
 simp only[elems,Ti]
 cases h.get id with
 | none=>rfl
 | some o=>cases o<;>rfl
def Eh(sz id off:Nat)(lo:Option DV):Option Nat→Option DV
 | some b=>match dP lo 0 b with
  | some a=>some (.sl id sz (off+a) (b-a))
  | none=>none
 | none=>none
def Jc(sz eM id off len:Nat)(lo hi:Option DV):Option DO→Option DV
 | some (.arr _ nR xs _)=>if sz=eM∧sz=nR∧off+len≤xs.length then Eh sz id off lo (dP hi len (xs.length-off))else none
 | _=>none
theorem wS(sz eM id off len:Nat)(lo hi:Option DV)(ety nR:Nat)(xs:List DV)(cap:Option Nat):Jc sz eM id off len lo hi (some (.arr ety nR xs cap))=if sz=eM∧sz=nR∧off+len≤xs.length then Eh sz id off lo (dP hi len (xs.length-off))else none:=rfl
theorem DA(h:aA)(sz id eM off len:Nat)(lo hi:Option DV):iH h sz (.sl id eM off len) lo hi=Jc sz eM id off len lo hi (h.get id):=by
 simp only[iH,Jc]
 cases h.get id with
 | none=>rfl
 | some o=>cases o with
  | arr e s xs c =>
   simp only
   split
   ·cases dP hi len (xs.length-off)with
    | none=>rfl
    | some b=>first|(simp only[Eh];done)|(simp only[Eh];cases dP lo 0 b<;>rfl)
   ·rfl
  | _=>rfl
def YA(sz id off b:Nat):Option Nat→Option DV
 | some a=>some (.sl id sz (off+a) (b-a))
 | none=>none
theorem Ei(sz id off b a:Nat):YA sz id off b (some a)=some (.sl id sz (off+a) (b-a)):=rfl
theorem wR(sz id off:Nat)(lo:Option DV)(b:Nat):Eh sz id off lo (some b)=YA sz id off b (dP lo 0 b):=by
 simp only[Eh,YA]
def OL(h:aA)(sz eM id off len:Nat)(ys:List DV):Option DO→Option (DV×aA)
 | some (.arr ety nR xs cap)=>if sz=eM∧sz=nR∧off+len≤xs.length∧h.lim≤id then some (.int .i64 (ys.take len).length,h.set id (.arr ety sz (dD xs (ys.take len) off) cap))else none
 | _=>none
theorem R9(h:aA)(sz eM id off len:Nat)(ys:List DV)(ety nR:Nat)(xs:List DV)(cap:Option Nat):OL h sz eM id off len ys (some (.arr ety nR xs cap))=if sz=eM∧sz=nR∧off+len≤xs.length∧h.lim≤id then some (.int .i64 (ys.take len).length,h.set id (.arr ety sz (dD xs (ys.take len) off) cap))else none:=rfl
theorem OM(h:aA)(sz id eM off len:Nat)(ys:List DV):xR h sz (.sl id eM off len) ys=OL h sz eM id off len ys (h.get id):=by
 simp only[xR,OL]
 cases h.get id with
 | none=>rfl
 | some o=>cases o<;>rfl
def OO(h:aA):DV→Option DV
 | .nsl=>some (.int .i64 0)
 | .sl id sz off _=>match h.get id with
  | some (.arr _ eM _ (some c))=>if sz=eM then some (.int .i64 (c-off:Nat))else none
  | some (.arr _ eM xs none)=>if sz=eM then some (.atl (xs.length-off))else none
  | _=>none
 | _=>none
theorem KB(h:aA)(env:Env)(x:Opd):aK h env (.cap x)=dV h (OO h (x.eval env)):=by
 simp only[aK,OO]
 cases x.eval env with
 | sl id sz off len =>
  simp only
  cases h.get id with
  | none=>rfl
  | some o=>cases o with
   | arr e s xs c=>cases c<;>simp only<;>split<;>rfl
   | _=>rfl
 | _=>rfl
theorem YT(c:Nat→List DV→aA→Option (DV×aA))(h:aA)(env:Env)(x:Opd):cC c (.cap x) env h=dV h (OO h (x.eval env)):=KB h env x
def UB(sz off:Nat):Option DO→Option DV
 | some (.arr _ eM _ (some c))=>if sz=eM then some (.int .i64 (c-off:Nat))else none
 | some (.arr _ eM xs none)=>if sz=eM then some (.atl (xs.length-off))else none
 | _=>none
theorem UA(h:aA)(id sz off len:Nat):OO h (.sl id sz off len)=UB sz off (h.get id):=by
 simp only[OO,UB]
theorem GL(sz off ety eM:Nat)(xs:List DV):UB sz off (some (.arr ety eM xs none))=if sz=eM then some (.atl (xs.length-off))else none:=rfl
theorem GK(sz off ety eM:Nat)(xs:List DV)(c:Nat):UB sz off (some (.arr ety eM xs (some c)))=if sz=eM then some (.int .i64 (c-off:Nat))else none:=rfl
theorem T1(a:Int)(n:Nat)(h:a≤(n:Int)):cN .gtr (.int .i64 a) (.atl n)=some (.bool false):=by simp[cN,h]
def Zw(h:aA)(ety sz bytes:Nat)(z s:DV)(x:DV):Option (DV×aA):=match asI x with
  | some n=>if 0≤n∧n≤140737488355328 then aY h ety sz bytes s (List.replicate n.toNat z)else none
  | none=>none
theorem M7(c:Nat→List DV→aA→Option (DV×aA))(h:aA)(env:Env)(ety sz bytes:Nat)(z:DV)(s x:Opd):cC c (.appendZ ety sz bytes z s x) env h=Zw h ety sz bytes z (s.eval env) (x.eval env):=rfl
theorem Tt(h:aA)(ety sz bytes:Nat)(z s:DV)(k:IntKind)(n:Int):Zw h ety sz bytes z s (.int k n)=if 0≤n∧n≤140737488355328 then aY h ety sz bytes s (List.replicate n.toNat z)else none:=rfl
theorem QS{h:aA}{id:Nat}{o o':DO}:(h.set id o).set id o'=h.set id o':=by
 simp[aA.set]
theorem Uc{h:aA}{o:DO}:WF (h.push o)↔WF h:=⟨fun w=>by unfold WF at *;simpa[aA.push]using w,fun w=>w.push⟩
theorem B7{h:aA}{id:Nat}{o:DO}:WF (h.set id o)↔WF h:=⟨fun w=>by unfold WF at *;simpa[aA.set]using w,fun w=>w.set⟩
theorem P9{h:aA}{id k:Nat}{o:DO}(w:WF h)(fI:id<h.n):(h.set id o).get k=if k=id then some o else h.get k:=bY w fI
def wl(h:aA)(l:Nat):aA:={h with lim:=l}
theorem AY{h:aA}{l:Nat}:WF (wl h l)↔WF h:=Iff.rfl
theorem WF.wl{h:aA}(w:WF h)(l:Nat):WF (Dm.wl h l):=w
def crV(h:aA)(L:dE):Option (DV×aA)→Option (DV×aA×dE)
 | some (v,h')=>some (v,wl h' h.lim,L)
 | none=>none
theorem OH(h:aA)(L:dE)(v:DV)(h':aA):crV h L (some (v,h'))=some (v,wl h' h.lim,L):=rfl
theorem iO(c:jB)(l r:Nat)(L:dE)(o:DOp)(env:Env)(h:aA)(hp:nW L env o=none):dO c l r L o env h=crV h L (cC c o env (wl h (max l h.lim))):=by
 unfold dO
 rw[hp]
 simp only[oG,wl]
 cases cC c o env {h with lim:=max l h.lim} with
 | some p=>rfl
 | none =>
  simp only[crV]
  cases hq:tZ c r L o env h with
  | none=>rfl
  | some x=>exact absurd hq (vG _ _ _ _ _ _ _)
theorem Nk(c:jB)(l r:Nat)(L:dE)(g:Opd)(as:List Opd)(env:Env)(h:aA):dO c l r L (.call g as) env h=crV h L (cC c (.call g as) env (wl h (max l h.lim))):=iO _ _ _ _ _ _ _ rfl
theorem Lv(c:jB)(l r:Nat)(L:dE)(e s:Nat)(z:DV)(env:Env)(h:aA):dO c l r L (.alloc e s z) env h=crV h L (cC c (.alloc e s z) env (wl h (max l h.lim))):=iO _ _ _ _ _ _ _ rfl
theorem Tk(c:jB)(l r:Nat)(L:dE)(e s:Nat)(z:Opd)(env:Env)(h:aA):dO c l r L (.box e s z) env h=crV h L (cC c (.box e s z) env (wl h (max l h.lim))):=iO _ _ _ _ _ _ _ rfl
theorem zE(c:jB)(l r:Nat)(L:dE)(e s:Nat)(z:DV)(n:Nat)(ps:List (Nat×Opd))(env:Env)(h:aA):dO c l r L (.buildSlice e s z n ps) env h=crV h L (cC c (.buildSlice e s z n ps) env (wl h (max l h.lim))):=iO _ _ _ _ _ _ _ rfl
theorem Nj(c:jB)(l r:Nat)(L:dE)(s:Nat)(d x:Opd)(env:Env)(h:aA):dO c l r L (.copy s d x) env h=crV h L (cC c (.copy s d x) env (wl h (max l h.lim))):=iO _ _ _ _ _ _ _ rfl
theorem Fc(c:jB)(l r:Nat)(L:dE)(env:Env)(h:aA):dO c l r L .makeMap env h=crV h L (cC c .makeMap env (wl h (max l h.lim))):=iO _ _ _ _ _ _ _ rfl
def LJ:DV→Option Nat|.ptr id ..=>some id|_=>none
def Je:DV→Option Nat|.sl id ..=>some id|_=>none
def mapId:DV→Option Nat|.map id=>some id|_=>none
section
variable (env:Env)
theorem QF(n:Option Nat)(a:Opd):cI env (.load n a)=LJ (a.eval env):=by simp only[cI];cases a.eval env<;>rfl
theorem Uj(sz:Nat)(x:Opd)(lo hi:Option Opd):cI env (.sliceSl sz x lo hi)=Je (x.eval env):=by simp only[cI];cases x.eval env<;>rfl
theorem IP(x:Opd):cI env (.cap x)=Je (x.eval env):=by simp only[cI];cases x.eval env<;>rfl
theorem IL(k:Nat)(x:Opd):cI env (.len k x)=mapId (x.eval env):=by simp only[cI];cases x.eval env<;>rfl
theorem Nm(q:EqT)(z:DV)(ok:Bool)(m k:Opd):cI env (.lookup q z ok m k)=mapId (m.eval env):=by simp only[cI];cases m.eval env<;>rfl
theorem QE(x:Opd):cI env (.move x)=none:=_root_.id rfl
theorem QD(c a b:Opd):cI env (.pick c a b)=none:=_root_.id rfl
theorem IQ(z:List DV)(ps:List (Nat×Nat×Opd)):cI env (.build z ps)=none:=_root_.id rfl
theorem IS(op:BinOp)(x y:Opd):cI env (.arith op x y)=none:=_root_.id rfl
theorem VY(n:Bool)(x y:Opd):cI env (.eqb n x y)=none:=_root_.id rfl
theorem VZ(n:Bool)(ks:List Nat)(x y:Opd):cI env (.eqa n ks x y)=none:=_root_.id rfl
theorem VX(k:Nat)(n:Bool)(x y:Opd):cI env (.eqn k n x y)=none:=_root_.id rfl
theorem u9(op:UnOp)(x:Opd):cI env (.un op x)=none:=_root_.id rfl
theorem QG(k:IntKind)(x:Opd):cI env (.conv k x)=none:=_root_.id rfl
theorem IR(x:Opd):cI env (.asStr x)=none:=_root_.id rfl
theorem Uk(x:Opd):cI env (.nilCheck x)=none:=_root_.id rfl
theorem Pc(o:Nat)(x:Opd):cI env (.fieldAddr o x)=none:=_root_.id rfl
theorem IN(o:Nat)(n:Option Nat)(x:Opd):cI env (.field o n x)=none:=_root_.id rfl
theorem Pb(s:Nat)(x i:Opd):cI env (.indexAddr s x i)=none:=_root_.id rfl
theorem Un(l e:Nat)(x i:Opd):cI env (.indexArr l e x i)=none:=_root_.id rfl
theorem IM(l e:Nat)(n:Option Nat)(x i:Opd):cI env (.index l e n x i)=none:=_root_.id rfl
theorem Um(x i:Opd):cI env (.indexStr x i)=none:=_root_.id rfl
theorem Ui(x:Opd)(lo hi:Option Opd):cI env (.sliceStr x lo hi)=none:=_root_.id rfl
theorem BE(b:Bool)(x y:Opd):cI env (.minmax b x y)=none:=_root_.id rfl
theorem Ul(f:FuncId)(c:List Opd):cI env (.makeFunc f c)=none:=_root_.id rfl
theorem C2(x:Opd)(i:Nat):cI env (.extract x i)=none:=_root_.id rfl
theorem Pa(t:TypeId)(x:Opd):cI env (.makeIface t x)=none:=_root_.id rfl
def EQ:Option Nat→Option (Nat×mD)
 | some id=>some (id,none)
 | none=>none
theorem EO(id:Nat):EQ (some id)=some (id,none):=_root_.id rfl
theorem EP:EQ none=none:=_root_.id rfl
def LI(n:Option Nat):DV→Option (Nat×mD)
 | .ptr id sz i o=>some (id,some (n,sz,i,o))
 | _=>none
theorem EB(n:Option Nat)(id sz i o:Nat):LI n (.ptr id sz i o)=some (id,some (n,sz,i,o)):=_root_.id rfl
theorem L4(n:Option Nat)(l:Bool)(cs:List DV)(o:Nat):LI n (.iptr l cs o)=none:=_root_.id rfl
theorem SG(n:Option Nat)(a:Opd):mark env (.load n a)=LI n (a.eval env):=by simp only[mark];cases a.eval env<;>rfl
theorem MC(sz:Nat)(x:Opd)(lo hi:Option Opd):mark env (.sliceSl sz x lo hi)=EQ (Je (x.eval env)):=by rw[←Uj env];simp only[mark];cases cI env (.sliceSl sz x lo hi)<;>rfl
theorem ZA(x:Opd):mark env (.cap x)=EQ (Je (x.eval env)):=by rw[←IP env];simp only[mark];cases cI env (.cap x)<;>rfl
theorem YW(k:Nat)(x:Opd):mark env (.len k x)=EQ (mapId (x.eval env)):=by rw[←IL env];simp only[mark];cases cI env (.len k x)<;>rfl
theorem ET(q:EqT)(z:DV)(ok:Bool)(m k:Opd):mark env (.lookup q z ok m k)=EQ (mapId (m.eval env)):=by rw[←Nm env];simp only[mark];cases cI env (.lookup q z ok m k)<;>rfl
theorem SF(x:Opd):mark env (.move x)=none:=_root_.id rfl
theorem SE(c a b:Opd):mark env (.pick c a b)=none:=_root_.id rfl
theorem MF(z:List DV)(ps:List (Nat×Nat×Opd)):mark env (.build z ps)=none:=_root_.id rfl
theorem MH(op:BinOp)(x y:Opd):mark env (.arith op x y)=none:=_root_.id rfl
theorem YY(n:Bool)(x y:Opd):mark env (.eqb n x y)=none:=_root_.id rfl
theorem YZ(n:Bool)(ks:List Nat)(x y:Opd):mark env (.eqa n ks x y)=none:=_root_.id rfl
theorem YX(k:Nat)(n:Bool)(x y:Opd):mark env (.eqn k n x y)=none:=_root_.id rfl
theorem AcE(op:UnOp)(x:Opd):mark env (.un op x)=none:=_root_.id rfl
theorem SH(k:IntKind)(x:Opd):mark env (.conv k x)=none:=_root_.id rfl
theorem MG(x:Opd):mark env (.asStr x)=none:=_root_.id rfl
theorem Xd(x:Opd):mark env (.nilCheck x)=none:=_root_.id rfl
theorem Sh(o:Nat)(x:Opd):mark env (.fieldAddr o x)=none:=_root_.id rfl
theorem ME(o:Nat)(n:Option Nat)(x:Opd):mark env (.field o n x)=none:=_root_.id rfl
theorem Sg(s:Nat)(x i:Opd):mark env (.indexAddr s x i)=none:=_root_.id rfl
theorem Xg(l e:Nat)(x i:Opd):mark env (.indexArr l e x i)=none:=_root_.id rfl
theorem MD(l e:Nat)(n:Option Nat)(x i:Opd):mark env (.index l e n x i)=none:=_root_.id rfl
theorem Xf(x i:Opd):mark env (.indexStr x i)=none:=_root_.id rfl
theorem Xc(x:Opd)(lo hi:Option Opd):mark env (.sliceStr x lo hi)=none:=_root_.id rfl
theorem ES(b:Bool)(x y:Opd):mark env (.minmax b x y)=none:=_root_.id rfl
theorem Xe(f:FuncId)(c:List Opd):mark env (.makeFunc f c)=none:=_root_.id rfl
theorem N1(x:Opd)(i:Nat):mark env (.extract x i)=none:=_root_.id rfl
theorem Sf(t:TypeId)(x:Opd):mark env (.makeIface t x)=none:=_root_.id rfl
end
theorem EC(a b c d:Nat):LJ (.ptr a b c d)=some a:=_root_.id rfl
theorem L5(l:Bool)(cs:List DV)(o:Nat):LJ (.iptr l cs o)=none:=_root_.id rfl
theorem QP(a b c d:Nat):Je (.sl a b c d)=some a:=_root_.id rfl
theorem KF:Je .nsl=none:=_root_.id rfl
theorem QQ{α:Type}(t:Bool)(sz:Nat)(e:α→DV)(xs:List α):Je (eL t sz e xs)=none:=by cases xs<;>rfl
theorem EX(i:Nat):mapId (.map i)=some i:=_root_.id rfl
theorem ML{α:Type}(t:Bool)(sz:Nat)(e:α→DV)(xs:List α):mapId (eL t sz e xs)=none:=by cases xs<;>rfl
theorem MK(a b c d:Nat):mapId (.sl a b c d)=none:=_root_.id rfl
theorem EW:mapId .nsl=none:=_root_.id rfl
theorem EV(s:List UInt8):mapId (.str s)=none:=_root_.id rfl
theorem FA:dE.start=⟨[],[]⟩:=_root_.id rfl
theorem MQ(L:dE)(t:Option (Nat×mD)):dE.see L true t=L:=_root_.id rfl
theorem SK(L:dE)(t:Option (Nat×mD)):dE.see L false t=dE.read L t:=_root_.id rfl
theorem MO(r:List (Nat×mD))(p:List (Nat×Nat))(x:Nat×mD):dE.read ⟨r,p⟩ (some x)=⟨x::r,p⟩:=_root_.id rfl
theorem FB(L:dE):dE.read L none=L:=_root_.id rfl
theorem FD(r:List (Nat×mD))(s:Nat)(t:Option Nat):dE.free ⟨r,[]⟩ s t=true:=by cases t<;>rfl
theorem FC(L:dE)(s:Nat):dE.free L s none=true:=_root_.id rfl
theorem MP(r:List (Nat×mD))(p:Nat×Nat)(ps:List (Nat×Nat))(s id:Nat):dE.free ⟨r,p::ps⟩ s (some id)=((decide (p.1<s) || !decide (p.2=id)) && dE.free ⟨r,ps⟩ s (some id)):=by
 have e1:Nat.blt p.1 s=decide (p.1<s):=by rw[Bool.eq_iff_iff];simp[Nat.blt_eq]
 have e2:Nat.beq p.2 id=decide (p.2=id):=by rw[Bool.eq_iff_iff];simp
 simp only[dE.free,List.all_cons,e1,e2]
theorem T2(m:Option Nat)(z i o n idx off:Nat):uT (some (m,z,i,o)) n idx off=(!decide (i=idx) || decide (o+Ia m≤off) || decide (off+n≤o)):=by
 have e2:Nat.beq i idx=decide (i=idx):=by rw[Bool.eq_iff_iff];simp
 have e3:Nat.ble (o+Ia m) off=decide (o+Ia m≤off):=by rw[Bool.eq_iff_iff];simp
 have e4:Nat.ble (off+n) o=decide (off+n≤o):=by rw[Bool.eq_iff_iff];simp
 simp only[uT,e2,e3,e4]
theorem T3(n idx off:Nat):uT none n idx off=false:=_root_.id rfl
theorem B6:Ia none=1:=_root_.id rfl
theorem B5(n:Nat):Ia (some n)=n:=_root_.id rfl
def pkA(L:dE):Option Nat→Option Nat
 | some id=>if L.rds.all (fun x=>!decide (x.1=id))=true then some id else none
 | none=>none
theorem LN(r:List (Nat×mD))(p:List (Nat×Nat))(id:Nat):pkA ⟨r,p⟩ (some id)=if r.all (fun x=>!decide (x.1=id))=true then some id else none:=_root_.id rfl
theorem LO(L:dE):pkA L none=none:=_root_.id rfl
theorem AbG(L:dE)(id:Nat):(L.rds.all fun x=>!(Nat.beq x.1 id))=(L.rds.all fun x=>!decide (x.1=id)):=by
 congr 1;funext x
 have e2:Nat.beq x.1 id=decide (x.1=id):=by rw[Bool.eq_iff_iff];simp
 rw[e2]
def pkS(L:dE)(n:Nat):DV→Option Nat
 | .ptr id _ idx off=>if L.rds.all (fun x=>!decide (x.1=id) || uT x.2 n idx off)=true then some id else none
 | _=>none
theorem RP(r:List (Nat×mD))(p:List (Nat×Nat))(n id sz idx off:Nat):pkS ⟨r,p⟩ n (.ptr id sz idx off)=if r.all (fun x=>!decide (x.1=id) || uT x.2 n idx off)=true then some id else none:=_root_.id rfl
theorem LM(L:dE)(n:Nat)(l:Bool)(cs:List DV)(o:Nat):pkS L n (.iptr l cs o)=none:=_root_.id rfl
theorem LK(L:dE)(env:Env)(n:Nat)(a x:Opd):nW L env (.store n a x)=pkS L n (a.eval env):=by
 simp only[nW]
 cases a.eval env<;>try rfl
 rename_i id sz idx off
 have:(L.rds.all fun x=>!(Nat.beq x.1 id) || uT x.2 n idx off)=(L.rds.all fun x=>!decide (x.1=id) || uT x.2 n idx off):=by
  congr 1;funext x
  have e2:Nat.beq x.1 id=decide (x.1=id):=by rw[Bool.eq_iff_iff];simp
  rw[e2]
 simp only[this];rfl
theorem EE(L:dE)(env:Env)(e s b:Nat)(a x:Opd):nW L env (.append e s b a x)=pkA L (Je (a.eval env)):=by
 simp only[nW,pkA,Je,AbG];cases a.eval env<;>rfl
def pkV(L:dE)(r id:Nat):Option (DV×aA)→Option (DV×aA×dE)
 | some (v,h')=>some (v,h',⟨L.rds,(r,id)::L.pks⟩)
 | none=>none
theorem LL(rs:List (Nat×mD))(ps:List (Nat×Nat))(r id:Nat)(v:DV)(h':aA):pkV ⟨rs,ps⟩ r id (some (v,h'))=some (v,h',⟨rs,(r,id)::ps⟩):=_root_.id rfl
def crP(c:jB)(l r:Nat)(L:dE)(o:DOp)(env:Env)(h:aA):Option Nat→Option (DV×aA×dE)
 | some id=>pkV L r id (aK h env o)
 | none=>crV h L (cC c o env (wl h (max l h.lim)))
theorem OI(c:jB)(l r:Nat)(L:dE)(o:DOp)(env:Env)(h:aA)(id:Nat):crP c l r L o env h (some id)=pkV L r id (aK h env o):=_root_.id rfl
theorem OJ(c:jB)(l r:Nat)(L:dE)(o:DOp)(env:Env)(h:aA):crP c l r L o env h none=crV h L (cC c o env (wl h (max l h.lim))):=_root_.id rfl
theorem Gi(c:jB)(l r:Nat)(L:dE)(o:DOp)(env:Env)(h:aA):dO c l r L o env h=crP c l r L o env h (nW L env o):=by
 cases hp:nW L env o with
 | none=>rw[iO _ _ _ _ _ _ _ hp];rfl
 | some id =>
  unfold dO
  rw[hp]
  simp only[crP,pkV]
  cases aK h env o with
  | none=>rfl
  | some q=>rfl
theorem Ls(c:jB)(l r:Nat)(L:dE)(n:Nat)(a x:Opd)(env:Env)(h:aA):dO c l r L (.store n a x) env h=crP c l r L (.store n a x) env h (pkS L n (a.eval env)):=by rw[Gi,LK]
theorem Hf(c:jB)(l r:Nat)(L:dE)(e s b:Nat)(a x:Opd)(env:Env)(h:aA):dO c l r L (.append e s b a x) env h=crP c l r L (.append e s b a x) env h (pkA L (Je (a.eval env))):=by rw[Gi,EE]
theorem Bi(c:jB)(l r:Nat)(L:dE)(q:EqT)(m k x:Opd)(env:Env)(h:aA):dO c l r L (.mapUpdate q m k x) env h=crV h L (cC c (.mapUpdate q m k x) env (wl h (max l h.lim))):=iO _ _ _ _ _ _ _ rfl
theorem RK(t:Bool)(h:aA)(n:Nat)(k:IntKind)(m:Int):resolve t h (n+1) (.int k m)=some (.int k m):=rfl
theorem LF(t:Bool)(h:aA)(n:Nat)(m:Bool):resolve t h (n+1) (.bool m)=some (.bool m):=rfl
theorem RI(t:Bool)(h:aA)(n:Nat)(m:List UInt8):resolve t h (n+1) (.str m)=some (.str m):=rfl
theorem RJ(t:Bool)(h:aA)(n:Nat):resolve t h (n+1) .nsl=some (.isl false 0 []):=rfl
theorem LD(t:Bool)(h:aA)(n:Nat)(l:Bool)(cs:List DV)(o:Nat):resolve t h (n+1) (.iptr l cs o)=some (.iptr l cs o):=rfl
theorem LE{α:Type}(t:Bool)(h:aA)(n:Nat)(t':Bool)(sz:Nat)(e:α→DV)(xs:List α):resolve t h (n+1) (eL t' sz e xs)=some (eL t' sz e xs):=gS t' sz e xs t h (n+1) (by omega)
theorem Wl(t:Bool)(h:aA)(n:Nat)(p:bJ):resolve t h (n+1) (bE p)=some (bE p):=LE ..
theorem LC(t:Bool)(h:aA)(n:Nat):resolve t h (n+1) .nili=some .nili:=rfl
theorem LB(t:Bool)(h:aA)(n:Nat):resolve t h (n+1) .nilp=some .nilp:=rfl
theorem Hw(t:Bool)(h:aA)(v:DV):resolve t h cY v=resolve t h (199+1) v:=rfl
def wE(t:Bool)(h:aA)(n:Nat)(vs:List DV):Option (List DV):=vs.mapM (resolve t h n)
theorem RL(t:Bool)(h:aA)(n:Nat)(vs:List DV):vs.mapM (resolve t h n)=wE t h n vs:=rfl
theorem LG(t:Bool)(h:aA)(n:Nat):wE t h n []=some []:=rfl
def VI:Option DV→Option (List DV)→Option (List DV)
 | some x,some l=>some (x::l)
 | _,_=>none
theorem S0(x:DV)(l:List DV):VI (some x) (some l)=some (x::l):=rfl
theorem DW(t:Bool)(h:aA)(n:Nat)(v:DV)(vs:List DV):wE t h n (v::vs)=VI (resolve t h n v) (wE t h n vs):=by
 unfold wE
 rw[List.mapM_cons]
 cases resolve t h n v<;>cases vs.mapM (resolve t h n)<;>rfl
def aggO:Option (List DV)→Option DV|some c=>some (.agg c)|none=>none
def u6:Option (List DV)→Option DV|some c=>some (.tup c)|none=>none
def funO(f:Nat):Option (List DV)→Option DV|some c=>some (.func f c)|none=>none
theorem HE(c:List DV):aggO (some c)=some (.agg c):=rfl
theorem BD(c:List DV):u6 (some c)=some (.tup c):=rfl
theorem FN(f:Nat)(c:List DV):funO f (some c)=some (.func f c):=rfl
theorem Y3(t:Bool)(h:aA)(n:Nat)(cs:List DV):resolve t h (n+1) (.agg cs)=aggO (wE t h n cs):=by
 simp only[resolve];unfold wE;cases cs.mapM (resolve t h n)<;>rfl
theorem RH(t:Bool)(h:aA)(n:Nat)(cs:List DV):resolve t h (n+1) (.tup cs)=u6 (wE t h n cs):=by
 simp only[resolve];unfold wE;cases cs.mapM (resolve t h n)<;>rfl
theorem Ck(t:Bool)(h:aA)(n:Nat)(f:Nat)(cs:List DV):resolve t h (n+1) (.func f cs)=funO f (wE t h n cs):=by
 simp only[resolve];unfold wE;cases cs.mapM (resolve t h n)<;>rfl
def NA(t:Bool)(off:Nat):Option (List DV)→Option DV|some c=>some (.iptr t c off)|none=>none
theorem O2(t:Bool)(off:Nat)(c:List DV):NA t off (some c)=some (.iptr t c off):=rfl
def RM(t:Bool)(h:aA)(n sz off:Nat):Option DV→Option DV|some e=>NA t off (wE t h n (aP sz e))|none=>none
theorem DX(t:Bool)(h:aA)(n sz off:Nat)(e:DV):RM t h n sz off (some e)=NA t off (wE t h n (aP sz e)):=rfl
def Ru(t:Bool)(h:aA)(n sz idx off:Nat):Option DO→Option DV
 | some (.arr _ eM xs _)=>if sz=eM then RM t h n sz off xs[idx]? else none
 | _=>none
theorem Rt(t:Bool)(h:aA)(n sz idx off ety eM:Nat)(xs:List DV)(cap:Option Nat):Ru t h n sz idx off (some (.arr ety eM xs cap))=if sz=eM then RM t h n sz off xs[idx]? else none:=rfl
theorem K8(t:Bool)(h:aA)(n id sz idx off:Nat):resolve t h (n+1) (.ptr id sz idx off)=Ru t h n sz idx off (h.get id):=by
 simp only[resolve,Ru]
 cases h.get id with
 | none=>rfl
 | some o=>cases o with
  | arr e s xs c =>
   simp only
   split
   ·cases xs[idx]? with
    | none=>rfl
    | some x=>simp only[RM,wE];cases(aP sz x).mapM (resolve t h n)<;>rfl
   ·rfl
  | _=>rfl
def ZG(t:Bool)(sz:Nat):Option (List DV)→Option DV|some ys=>some (mkIsl t sz ys)|none=>none
theorem FF(t:Bool)(sz:Nat)(ys:List DV):ZG t sz (some ys)=some (mkIsl t sz ys):=rfl
def En(t:Bool)(h:aA)(n sz off len:Nat):Option DO→Option DV
 | some (.arr _ eM xs _)=>if sz=eM∧off+len≤xs.length then ZG t sz (wE t h n ((xs.drop off).take len))else none
 | _=>none
theorem fV(t:Bool)(h:aA)(n sz off len ety eM:Nat)(xs:List DV)(cap:Option Nat):En t h n sz off len (some (.arr ety eM xs cap))=if sz=eM∧off+len≤xs.length then ZG t sz (wE t h n ((xs.drop off).take len))else none:=rfl
theorem kY(t:Bool)(h:aA)(n id sz off len:Nat):resolve t h (n+1) (.sl id sz off len)=En t h n sz off len (h.get id):=by
 simp only[resolve,En]
 cases h.get id with
 | none=>rfl
 | some o=>cases o with
  | arr e s xs c =>
   simp only
   split
   ·simp only[wE];cases((xs.drop off).take len).mapM (resolve t h n)<;>rfl
   ·rfl
  | _=>rfl
def outV(h:aA)(v:DV):Option DV :=
 match resolve false h (199+1) v with
 | some d=>if bI (199+1) d then some d else none
 | none=>none
theorem hZ(v:DV)(h:aA):cW (some (v,h))=outV h v:=rfl
def IE:Option DV→Option DV
 | some d=>if bI (199+1) d then some d else none
 | none=>none
theorem RU(h:aA)(v:DV):outV h v=IE (resolve false h (199+1) v):=rfl
theorem IC(k:IntKind)(n:Int):IE (some (.int k n))=some (.int k n):=rfl
theorem AZ(b:Bool):IE (some (.bool b))=some (.bool b):=rfl
theorem IB(b:List UInt8):IE (some (.str b))=some (.str b):=rfl
theorem PV(d:DV):IE (some d)=if bI 200 d=true then some d else none:=rfl
theorem VU(n:Nat)(k:IntKind)(m:Int):bI (n+1) (.int k m)=true:=rfl
theorem QB(n:Nat)(m:Bool):bI (n+1) (.bool m)=true:=rfl
theorem VT(n:Nat)(m:List UInt8):bI (n+1) (.str m)=true:=rfl
theorem VW(n:Nat)(cs:List DV):bI (n+1) (.agg cs)=cs.all (bI n):=rfl
theorem VS(n:Nat)(cs:List DV):bI (n+1) (.tup cs)=cs.all (bI n):=rfl
theorem PW(n:Nat)(p:bJ):bI (n+21) (bE p)=true:=tT p (n+21) (by omega)
theorem PZ(n:Nat)(sz:Nat):bI (n+1) (.isl false sz [])=true:=by simp[bI]
theorem PY(n:Nat):bI (n+1) .nili=true:=rfl
theorem PX(n:Nat):bI (n+1) .nilp=true:=rfl
theorem We(D:cX)(N:Nat)(S:List Fr)(f:cT)(hs:List aA)(L:dE)(dst:Option Nat)(op:DOp)(s:Nat)(cm:Bool)(r:List aZ)(hf:L.free s (cI (tab N f) op)=true) :
  Ci D N S dst op s cm r f hs L .read=Wf D N S dst op cm r f hs L (kH hs s):=by rw[J6,if_pos hf]
theorem xE{α:Type}(t:Bool)(sz:Nat)(e:α→DV)(xs:List α)(k:IntKind)(i:Int)(h0:0≤i):bQ sz (eL t sz e xs) (.int k i)=(xs[i.toNat]?).map fun a=>.iptr t (aP sz (e a)) 0:=by
 cases hx:xs[i.toNat]? with
 | some a=>rw[Kh t sz e k h0 hx];rfl
 | none =>
  cases xs with
  | nil=>simp[iD,bQ,asI]
  | cons x xs =>
   have hy:(List.map e (x::xs))[i.toNat]?=none:=by rw[List.getElem?_map,hx];rfl
   rw[vV,←List.map_cons]
   simp only[bQ,asI,h0,and_self,if_true,hy,Option.map_none]
theorem xD{α:Type}(t:Bool)(sz:Nat)(e:α→DV)(xs:List α)(k:IntKind)(i:Nat):bQ sz (eL t sz e xs) (.int k (i:Int))=(xs[i]?).map fun a=>.iptr t (aP sz (e a)) 0:=by
 rw[xE _ _ _ _ _ _ (Int.natCast_nonneg i)];simp
theorem Gx{α:Type}(t:Bool)(sz:Nat)(e:α→DV)(xs:List α)(k:IntKind)(i:Nat):bQ sz (eL t sz e xs) (.int k ((i:Int)+1))=(xs[i+1]?).map fun a=>.iptr t (aP sz (e a)) 0:=by
 have:=xD t sz e xs k (i+1)
 rwa[Int.natCast_add]at this
theorem Bu{n:Int}(h1:0≤n)(h2:n≤18446744073709551615):IntKind.u64.wrap n=n:=by
 exact Go.IntWalk.u64_in n ⟨h1,h2⟩
theorem T0(a:Int):cN .shr (.int .u64 a) (.int .u64 1)=some (.int .u64 (a.fdiv 2)):=by
 simp[cN,IntKind.bits]
theorem half(i j:Nat):((i:Int)+j).fdiv 2=((i+j) / 2:Nat):=by
 rw[Int.fdiv_eq_ediv_of_nonneg _ (by decide)];omega
theorem jM(k:IntKind)(n d l:Nat)(h:n≤l):dP (some (.int k (n:Int))) d l=some n:=by
 rw[vZ _ _ _ _ (by omega) (by omega)];simp
theorem Zq(k:IntKind)(n d l:Nat)(h:n+1≤l):dP (some (.int k ((n:Int)+1))) d l=some (n+1):=by
 rw[vZ _ _ _ _ (by omega) (by omega)];simp
theorem Zp(k:IntKind)(d l:Nat):dP (some (.int k 0)) d l=some 0:=by
 rw[vZ _ _ _ _ (by omega) (by omega)];simp
theorem J0(D:cX)(N:Nat)(S:List Fr)(f:cT)(h:aA)(o:aZ)(w:Bool)(r:List aZ):DN D N S o w r f h cF=Ch D N S r (tY f o.dst cF) h:=rfl
theorem Wg(D:cX)(N:Nat)(S:List Fr)(f:cT)(hs:List aA)(L:dE)(o:aZ)(w:Bool)(r:List aZ):Wh D N S o w r f hs L cF=zK D N S o.dst o.kind r f L hs:=rfl
theorem aC{b c:aN}(hb:b=c)(D:cX)(N:Nat)(S:List Fr)(f:cT)(h:aA):run D N S (.loop b) f h=run D N (.loop b::S) c f h:=by
 rw[KR];rw[←hb]
theorem PM(h:aA)(o:DO):(h.push o).n=h.n+1:=_root_.id rfl
theorem AX(h:aA)(o:DO):(h.push o).lim=h.lim:=_root_.id rfl
theorem VO(h:aA)(id':Nat)(o:DO):(h.set id' o).n=h.n:=_root_.id rfl
theorem HV(h:aA)(id':Nat)(o:DO):(h.set id' o).lim=h.lim:=_root_.id rfl
theorem o7(h:aA)(l:Nat):(wl h l).n=h.n:=_root_.id rfl
theorem PN(h:aA)(l:Nat):(wl h l).lim=l:=_root_.id rfl
theorem PO(h:aA)(l i:Nat):(wl h l).get i=h.get i:=_root_.id rfl
theorem HT(h:aA)(l:Nat)(o:DO):(wl h l).push o=wl (h.push o) l:=_root_.id rfl
theorem PL(h:aA)(l i:Nat)(o:DO):(wl h l).set i o=wl (h.set i o) l:=_root_.id rfl
theorem VN(h:aA)(a b:Nat):wl (wl h a) b=wl h b:=_root_.id rfl
theorem HR(h:aA):wl h h.lim=h:=_root_.id rfl
theorem Ox(h:aA)(o:DO):wl (h.push o) h.lim=h.push o:=_root_.id rfl
theorem PP(h:aA)(l:Nat)(hl:l=h.lim):wl h l=h:=by subst hl;rfl
theorem HU:oH.n=0:=_root_.id rfl
theorem B4:oH.lim=0:=_root_.id rfl
attribute [simp] RD I8 DL KV DJ RF DI KQ RE KS DT Ms Jn Rr Wi RG Mr Rs LA
 KU DR K0 KY ZY ZZ AbF OW DY DZ PS
 RX RW LY YU LV Mw RY LR Wx LX YR YS YQ AbJ SA LW Sd LU Sc Xa LT Wz Ww M4 YP EK RZ EI Wy M5 M6 Sb EJ Sa
 Bm UC Rb Ra Ml Qv Qw Vi Qx Qz Mk Qy Iv Mj Mi Fm Mh
 VO HV cM PM HU B4 AX N6 MR N7 N8 CU Vg Vh OA xP Vf IJ QS Uc B7 AY P9 HW o7 PN PO HT PL VN HR Ox PP OH Nk Lv Tk zE Nj Fc DA wS wR Ei R8 OM R9 YT KB UA GL GK T1 M7 Tt AbI AbH Wo Yv R6 Yu Q9 R1 GA R0 R5 Yt R4 Tj Ys Yr Oo Yq
 Lg Hc Q7 SM MU MV SL MW Zt Zr Zs GZ GU GV GW GX GY GT GO GP GQ GR GS VP VQ
 NZ uP Zl Zm Zk Tp L6 rO Wq Q2 FX L9 GI S8 Tg HD Mn NV FS FT Q6 Tu FY qF Mx Jy Xi
 Wv S5 Bn
 RL LG DW S0 HE BD FN O2 RK LF RI RJ LD LE Wl LC LB Y3 RH Ck Hw K8 Rt DX kY fV FF
 TJ Q4 FR Mu K6 Mv hZ RU IC AZ IB PV VU QB VT VW VS PW PZ PY PX
 KT KX DP J1 J8 DQ J5 Wc Rn We Wd Ro J7 J9 J4 J3 J2 QF Uj IP IL Nm QE QD IQ IS VY VZ VX u9 QG IR Uk Pc IN Pb Un IM Um Ui BE Ul C2 Pa
 EC L5 QP KF QQ EX ML MK EW EV FA MQ SK MO T2 T3 B6 B5 RP LM EO EP EB L4 SG MC ZA YW ET SF SE MF MH YY YZ YX AcE SH MG Xd Sh ME Sg Xg MD Xf Xc ES Xe N1 Sf FB FD FC MP LN LO LL OI OJ Ls Hf Bi CZ I9 DM KW J0 Wg
 QM X2 KC XZ Vo zI X3 Vk Fp Vq JZ KA JY UM X5 Vp Cb Vn Ca Fs Vm Fq Fo Ix JX Ns X4 Nq Vl H6 Iy Rd Nr Bz
 xW jM Zq Zp vZ xD Gx xE aT Bu T0 half
end Go.Dm
