/- A part of the proof. -/
import Derived.Test.YtegofjiikhlokaaGreatDoorMm3
import Derived.IntWalk
set_option linter.all false
namespace Go.Dm
abbrev Dy:=aN→Env→aA→Res
abbrev jD:=Nat→List DV→aA→Option (DV×aA)
def tK(r1 r2:Dy):Prop:=∀c env h e cL h',r1 c env h=.ok e cL h'→r2 c env h=.ok e cL h'
def Bv(c1 c2:jD):Prop:=∀f args h r,c1 f args h=some r→c2 f args h=some r
theorem tK.refl(r:Dy):tK r r:=fun _ _ _ _ _ _ h=>h
theorem tK.trans{a b c:Dy}(h:tK a b)(g:tK b c):tK a c:=fun x y z e u v k=>g _ _ _ _ _ _ (h x y z e u v k)
theorem xG{c1 c2:jD}(hc:Bv c1 c2){o:DOp}{env:Env}{h:aA}{r:DV×aA}(hs:cG c1 o env h=some r):cG c2 o env h=some r:=by
 cases o
 case call f args =>
  simp only[cG]at hs ⊢
  split at hs
  ·exact hc _ _ _ _ hs
  ·cases hs
 all_goals exact hs
theorem GM{c1 c2:jD}(hc:Bv c1 c2){l:Nat}{o:DOp}{env:Env}{h:aA}{r:DV×aA}(hs:oK c1 l o env h=some r):oK c2 l o env h=some r:=by
 unfold oK at hs ⊢
 split at hs
 ·rename_i v h' h1
  rw[xG hc h1];exact hs
 ·cases hs
theorem vM(c:jD)(r:Nat)(L:dF)(o:DOp)(env:Env)(h:aA)(x:DV×aA×dF):uA c r L o env h≠some x:=by
 intro hs
 unfold uA at hs
 split at hs
 ·split at hs
  ·split at hs
   ·rename_i lD;exact absurd lD.1 (by decide)
   ·cases hs
  ·cases hs
 ·cases hs
theorem Gn{c1 c2:jD}(hc:Bv c1 c2){l q:Nat}{L:dF}{o:DOp}{env:Env}{h:aA}{r:DV×aA×dF}(hs:dP c1 l q L o env h=some r):dP c2 l q L o env h=some r:=by
 unfold dP at hs ⊢
 split at hs
 ·exact hs
 ·split at hs
  ·rename_i v h' h1
   rw[GM hc h1];exact hs
  ·exact absurd hs (vM _ _ _ _ _ _ _)
theorem Ep{c1 c2:jD}(hc:Bv c1 c2):∀(ops:List aZ) {env:Env} {h:aA} {r:Env×aA},iY c1 ops env h=some r→iY c2 ops env h=some r:=by
 intro ops
 induction ops with
 | nil=>intro env h r hs;exact hs
 | cons o ops ih =>
  intro env h r hs
  simp only[iY]at hs ⊢
  split at hs
  ·split at hs
   ·rename_i v h' h1
    rw[xG hc h1];exact ih hs
   ·cases hs
  ·exact ih hs
  ·cases hs
theorem vK{c1 c2:jD}(hc:Bv c1 c2):∀(ops:List aZ) {env:Env} {hs:List aA} {L:dF} {r:Env×aA},eK c1 ops env hs L=some r→eK c2 ops env hs L=some r:=by
 intro ops
 induction ops with
 | nil=>intro env h L r hs;exact hs
 | cons o ops ih =>
  intro env hs L r he
  cases hs with
  | nil=>simp[eK]at he
  | cons h hs =>
   simp only[eK]at he ⊢
   split at he
   ·cases he
   ·split at he
    ·split at he
     ·rename_i tC
      rw[if_pos tC]
      split at he
      ·split at he
       ·exact ih he
       ·cases he
      ·cases he
     ·cases he
    ·split at he
     ·rename_i v h' h1
      rw[xG hc h1];exact ih he
     ·cases he
    ·split at he
     ·split at he
      ·rename_i v h' L' h1
       rw[Gn hc h1];exact ih he
      ·cases he
     ·cases he
   ·exact ih he
def iV(run:Dy)(df:aQ)(args:List DV)(h:aA):Option (DV×aA) :=
 match run df.body (args++List.replicate (df.ntmps-args.length) cH) h with
 | .ok (.exit _) _ _=>none
 | .ok _ env h'=>match aI h' env df.results with
  | some v=>some (v,h')
  | none=>none
 | .fail=>none
theorem sD{r1 r2:Dy}(hr:tK r1 r2){df:aQ}{args:List DV}{h:aA}{r:DV×aA}(hs:iV r1 df args h=some r):iV r2 df args h=some r:=by
 unfold iV at hs ⊢
 split at hs
 ·cases hs
 ·rename_i e env h' eG h1
  rw[hr _ _ _ _ _ _ h1]
  cases e with
  | exit id=>exact absurd rfl (eG id)
  | normal=>exact hs
  | ret=>exact hs
 ·cases hs
def gP(run:Dy)(df:aQ)(rest:List DV)(id sz off len ety:Nat)(xs:List DV)(h:aA)(e:Nat)(cap:Option Nat):Option (List DV) :=
 nG h ety sz (iV run df (.sl h.n sz off len::rest) {(h.set id .dead).push (.arr ety sz (xs++List.replicate e .unk) cap)with lim:=h.n})
theorem rG{r1 r2:Dy}(hr:tK r1 r2){df:aQ}{rest:List DV}{id sz off len ety:Nat}{xs:List DV}{h:aA}{e:Nat}{cap:Option Nat}{l:List DV}(hs:gP r1 df rest id sz off len ety xs h e cap=some l) :
  gP r2 df rest id sz off len ety xs h e cap=some l:=by
 unfold gP at hs ⊢
 cases hg:iV r1 df (.sl h.n sz off len::rest) {(h.set id .dead).push (.arr ety sz (xs++List.replicate e .unk) cap)with lim:=h.n} with
 | none=>rw[hg]at hs;simp[nG]at hs
 | some r=>rw[sD hr hg,←hg];exact hs
def kW(run:Dy)(df:aQ)(rest:List DV)(id sz off len ety:Nat)(xs:List DV)(h:aA):Option (DV×aA) :=
 match gP run df rest id sz off len ety xs h ((rest.map wU).foldl (·+·) 0) none with
 | some l=>if(List.range ((rest.map wU).foldl (·+·) 0)).all (fun e=>match gP run df rest id sz off len ety xs h e (some (xs.length+e))with|some l'=>rQ l l'|none=>false)=true then
   some (.sl h.n sz 0 l.length,(h.set id .dead).push (.arr ety sz l none))else none
 | none=>none
theorem Wt{r1 r2:Dy}(hr:tK r1 r2){df:aQ}{rest:List DV}{id sz off len ety:Nat}{xs:List DV}{h:aA}{r:DV×aA}(hs:kW r1 df rest id sz off len ety xs h=some r) :
  kW r2 df rest id sz off len ety xs h=some r:=by
 unfold kW at hs ⊢
 split at hs
 ·rename_i l hl
  split at hs
  ·rename_i lD
   rw[rG hr hl]
   simp only
   rw[if_pos]
   ·exact hs
   ·refine List.all_eq_true.2 fun e he=>?_
    have:=List.all_eq_true.1 lD e he
    split at this
    ·rename_i l' Kv
     rw[rG hr Kv];exact this
    ·cases this
  ·cases hs
 ·cases hs
def dW(run:Dy)(df:aQ)(args:List DV)(h:aA):Option (DV×aA) :=
 match df.mode with
 | .full=>iV run df args h
 | .fresh=>match iV run df args {h with lim:=h.n} with
  | some (v,h')=>some (v,{h' with lim:=h.lim})
  | none=>none
 | .pure=>match args.mapM (resolve true h cW)with
  | some ds=>match iV run df ds {objs:=[],n:=0,lim:=0} with
   | some (v,h')=>match resolve false h' cW v with
    | some d=>if bJ cW d then some (d,h)else none
    | none=>none
   | none=>none
  | none=>none
 | .split=>match args with
  | .sl id sz off len::rest=>match h.get id with
   | some (.arr ety eQ xs none)=>if sz=eQ∧h.lim≤id then kW run df rest id sz off len ety xs h else none
   | _=>iV run df args h
  | _=>iV run df args h
 | .frz=>match vQ jH h args with
  | some (as,h1)=>match as.mapM (resolve true h1 cW)with
   | some ds=>match iV run df ds {objs:=[],n:=0,lim:=0} with
    | some (v,h')=>match resolve false h' cW v with
     | some d=>if bJ cW d then some (d,h1)else none
     | none=>none
    | none=>none
   | none=>none
  | none=>none
theorem xW(run:Dy)(D:dA)(f:Nat)(args:List DV)(h:aA) :
  enter run D f args h=match D.hook f with
   | some hk=>hk h args
   | none=>match D.fn f with
    | none=>none
    | some df=>dW run df args h:=by
 unfold enter
 cases D.hook f with
 | some hk=>rfl
 | none =>
  cases D.fn f with
  | none=>rfl
  | some df =>
   simp only
   unfold dW
   cases df.mode<;>rfl
theorem Q2{r1 r2:Dy}(hr:tK r1 r2){df:aQ}{args:List DV}{h:aA}{r:DV×aA}(hs:dW r1 df args h=some r):dW r2 df args h=some r:=by
 unfold dW at hs ⊢
 split at hs
 ·exact sD hr hs
 ·split at hs
  ·rename_i v h' h1
   rw[sD hr h1];exact hs
  ·cases hs
 ·split at hs
  ·split at hs
   ·rename_i h1
    rw[sD hr h1];exact hs
   ·cases hs
  ·cases hs
 ·split at hs
  ·split at hs
   ·split at hs
    ·rename_i hc
     rw[if_pos hc]
     exact Wt hr hs
    ·cases hs
   ·rename_i eG
    exact sD hr hs
  ·exact sD hr hs
 ·split at hs
  ·split at hs
   ·split at hs
    ·rename_i h1
     rw[sD hr h1];exact hs
    ·cases hs
   ·cases hs
  ·cases hs
theorem mX{r1 r2:Dy}(hr:tK r1 r2)(D:dA):Bv (enter r1 D) (enter r2 D):=by
 intro f args h r hs
 rw[xW]at hs ⊢
 split at hs
 ·exact hs
 ·split at hs
  ·cases hs
  ·exact Q2 hr hs
theorem Ug(D:dA):∀n,tK (eO D n) (eO D (n+1)):=by
 intro n
 induction n with
 | zero=>intro c env h e cL h' he;cases he
 | succ n ih =>
  intro c env h e cL h' he
  cases c<;>unfold eO at he<;>unfold eO<;>simp only at he ⊢
  case skip=>exact he
  case exit=>exact he
  case ret=>exact he
  case seq a b =>
   split at he
   ·rename_i h1
    rw[ih _ _ _ _ _ _ h1];exact ih _ _ _ _ _ _ he
   ·rename_i eG
    rw[ih _ _ _ _ _ _ he]
    cases e with
    | normal=>exact absurd he (eG _ _)
    | _=>rfl
  case cond c a b =>
   split at he
   ·exact ih _ _ _ _ _ _ he
   ·exact ih _ _ _ _ _ _ he
   ·cases he
  case block id b =>
   split at he
   ·rename_i h1
    rw[ih _ _ _ _ _ _ h1];exact he
   ·rename_i eG
    rw[ih _ _ _ _ _ _ he]
    cases e with
    | exit i=>exact absurd he (eG _ _ _)
    | _=>rfl
  case loop b =>
   split at he
   ·rename_i h1
    rw[ih _ _ _ _ _ _ h1];exact ih _ _ _ _ _ _ he
   ·rename_i eG
    rw[ih _ _ _ _ _ _ he]
    cases e with
    | normal=>exact absurd he (eG _ _)
    | _=>rfl
  case region ops =>
   split at he
   ·rename_i h1
    rw[Ep (mX ih D) _ h1];exact he
   ·cases he
  case draw ops =>
   split at he
   ·rename_i h1
    rw[vK (mX ih D) _ h1];exact he
   ·cases he
theorem jW(D:dA){n m:Nat}(h:n≤m):tK (eO D n) (eO D m):=by
 induction h with
 | refl=>exact .refl _
 | step _ ih=>exact ih.trans (Ug D _)
open Classical in
noncomputable def ev(D:dA):Dy:=fun c env h =>
 if hx:∃ x:Nat×Ex×Env×aA,eO D x.1 c env h=.ok x.2.1 x.2.2.1 x.2.2.2 then .ok hx.choose.2.1 hx.choose.2.2.1 hx.choose.2.2.2 else .fail
theorem fQ{D:dA}{c:aN}{env:Env}{h:aA}{e:Ex}{cL:Env}{h':aA}:ev D c env h=.ok e cL h'↔∃ n,eO D n c env h=.ok e cL h':=by
 unfold ev
 constructor
 ·intro hs
  split at hs
  ·rename_i hx
   have:=hx.choose_spec
   exact⟨_,this.trans hs⟩
  ·cases hs
 ·rintro⟨n,hn⟩
  have hx:∃ x:Nat×Ex×Env×aA,eO D x.1 c env h=.ok x.2.1 x.2.2.1 x.2.2.2:=⟨⟨n,e,cL,h'⟩,hn⟩
  rw[dif_pos hx]
  have h1:=jW D (Nat.le_max_left n hx.choose.1) _ _ _ _ _ _ hn
  have h2:=jW D (Nat.le_max_right n hx.choose.1) _ _ _ _ _ _ hx.choose_spec
  rw[h1]at h2
  exact h2.symm
theorem Lq(D:dA)(n:Nat):tK (eO D n) (ev D):=fun _ _ _ _ _ _ h=>fQ.2 ⟨n,h⟩
theorem yN{a b:Res}(h:∀e env h,a=.ok e env h↔b=.ok e env h):a=b:=by
 cases a with
 | fail=>cases b with
  | fail=>rfl
  | ok e env h0=>exact((h e env h0).2 rfl)
 | ok e env h0=>exact((h e env h0).1 rfl).symm
noncomputable def fc(D:dA):jD:=enter (ev D) D
theorem lT{D:dA}{df:aQ}{args:List DV}{h:aA}{r:DV×aA}(hs:iV (ev D) df args h=some r):∃ n,iV (eO D n) df args h=some r:=by
 cases hv:ev D df.body (args++List.replicate (df.ntmps-args.length) cH) h with
 | fail=>unfold iV at hs;rw[hv]at hs;cases hs
 | ok e env h' =>
  obtain⟨n,hn⟩:=fQ.1 hv
  refine⟨n,?_⟩
  unfold iV at hs ⊢
  rw[hv]at hs
  rw[hn]
  exact hs
theorem Cl{D:dA}{df:aQ}{rest:List DV}{id sz off len ety:Nat}{xs:List DV}{h:aA}{e:Nat}{cap:Option Nat}{l:List DV}(hs:gP (ev D) df rest id sz off len ety xs h e cap=some l) :
  ∃ n,gP (eO D n) df rest id sz off len ety xs h e cap=some l:=by
 unfold gP at hs
 cases hg:iV (ev D) df (.sl h.n sz off len::rest) {(h.set id .dead).push (.arr ety sz (xs++List.replicate e .unk) cap)with lim:=h.n} with
 | none=>rw[hg]at hs;simp[nG]at hs
 | some r =>
  obtain⟨n,hn⟩:=lT hg
  refine⟨n,?_⟩
  unfold gP
  rw[hn,←hg];exact hs
theorem Jg{D:dA}{df:aQ}{rest:List DV}{id sz off len ety:Nat}{xs:List DV}{h:aA}{r:DV×aA}(hs:kW (ev D) df rest id sz off len ety xs h=some r) :
  ∃ n,kW (eO D n) df rest id sz off len ety xs h=some r:=by
 unfold kW at hs
 split at hs
 ·rename_i l hl
  split at hs
  ·rename_i lD
   obtain⟨n0,hn0⟩:=Cl hl
   have many:∀es:List Nat,(es.all fun e=>match gP (ev D) df rest id sz off len ety xs h e (some (xs.length+e))with|some l'=>rQ l l'|none=>false)=true →
     ∃ n,(es.all fun e=>match gP (eO D n) df rest id sz off len ety xs h e (some (xs.length+e))with|some l'=>rQ l l'|none=>false)=true:=by
    intro es
    induction es with
    | nil=>intro _;exact⟨0,rfl⟩
    | cons e es ih =>
     intro ha
     simp only[List.all_cons,Bool.and_eq_true]at ha
     obtain⟨n1,h1⟩:=ih ha.2
     have h2:=ha.1
     split at h2
     ·rename_i l' Kv
      obtain⟨n2,h3⟩:=Cl Kv
      refine⟨max n1 n2,?_⟩
      simp only[List.all_cons,Bool.and_eq_true]
      refine⟨by rw[rG (jW D (Nat.le_max_right n1 n2)) h3];exact h2,List.all_eq_true.2 fun e he=>?_⟩
      have:=List.all_eq_true.1 h1 e he
      split at this
      ·rename_i l2 S5
       rw[rG (jW D (Nat.le_max_left n1 n2)) S5];exact this
      ·cases this
     ·cases h2
   obtain⟨n1,BG⟩:=many _ lD
   refine⟨max n0 n1,?_⟩
   unfold kW
   rw[rG (jW D (Nat.le_max_left n0 n1)) hn0]
   simp only
   rw[if_pos]
   ·exact hs
   ·refine List.all_eq_true.2 fun e he=>?_
    have:=List.all_eq_true.1 BG e he
    split at this
    ·rename_i l2 S5
     rw[rG (jW D (Nat.le_max_right n0 n1)) S5];exact this
    ·cases this
  ·cases hs
 ·cases hs
theorem No{D:dA}{df:aQ}{args:List DV}{h:aA}{r:DV×aA}(hs:dW (ev D) df args h=some r):∃ n,dW (eO D n) df args h=some r:=by
 unfold dW at hs
 split at hs
 ·rename_i hm
  obtain⟨n,hn⟩:=lT hs
  exact⟨n,by unfold dW;rw[hm];exact hn⟩
 ·rename_i hm
  split at hs
  ·rename_i v h' h1
   obtain⟨n,hn⟩:=lT h1
   exact⟨n,by unfold dW;rw[hm];simp only;rw[hn];exact hs⟩
  ·cases hs
 ·rename_i hm
  split at hs
  ·rename_i ds Gg
   split at hs
   ·rename_i v h' h1
    obtain⟨n,hn⟩:=lT h1
    exact⟨n,by unfold dW;rw[hm];simp only;rw[Gg];simp only;rw[hn];exact hs⟩
   ·cases hs
  ·cases hs
 ·rename_i hm
  split at hs
  ·rename_i id sz off len rest
   split at hs
   ·rename_i ety eQ xs hg
    split at hs
    ·rename_i hc
     obtain⟨n,hn⟩:=Jg hs
     exact⟨n,by unfold dW;rw[hm];simp only;rw[hg];simp only;rw[if_pos hc];exact hn⟩
    ·cases hs
   ·rename_i eG
    obtain⟨n,hn⟩:=lT hs
    refine⟨n,?_⟩
    unfold dW
    rw[hm]
    simp only
    exact hn
  ·rename_i eG
   obtain⟨n,hn⟩:=lT hs
   refine⟨n,?_⟩
   unfold dW
   rw[hm]
   simp only
   exact hn
 ·rename_i hm
  split at hs
  ·rename_i as h1 ea
   split at hs
   ·rename_i ds Gg
    split at hs
    ·rename_i v h' h2
     obtain⟨n,hn⟩:=lT h2
     exact⟨n,by unfold dW;rw[hm];simp only;rw[ea];simp only;rw[Gg];simp only;rw[hn];exact hs⟩
    ·cases hs
   ·cases hs
  ·cases hs
theorem Ue{D:dA}{f:Nat}{args:List DV}{h:aA}{r:DV×aA}:fc D f args h=some r↔∃ n,C2 D n f args h=some r:=by
 constructor
 ·intro hs
  unfold fc at hs
  rw[xW]at hs
  split at hs
  ·rename_i hk hh
   exact⟨0,by unfold C2;rw[xW,hh];exact hs⟩
  ·rename_i hh
   split at hs
   ·cases hs
   ·rename_i df hdf
    obtain⟨n,hn⟩:=No hs
    exact⟨n,by unfold C2;rw[xW,hh,hdf];exact hn⟩
 ·rintro⟨n,hn⟩
  exact mX (Lq D n) D f args h r hn
theorem Mj(D:dA)(n:Nat):Bv (enter (eO D n) D) (fc D):=mX (Lq D n) D
theorem xF{D:dA}{o:DOp}{env:Env}{h:aA}{r:DV×aA}(hs:cG (fc D) o env h=some r):∃ n,cG (enter (eO D n) D) o env h=some r:=by
 cases o
 case call f args =>
  simp only[cG]at hs ⊢
  split at hs
  ·exact Ue.1 hs
  ·cases hs
 all_goals exact⟨0,hs⟩
theorem Ua{D:dA}{l:Nat}{o:DOp}{env:Env}{h:aA}{r:DV×aA}(hs:oK (fc D) l o env h=some r):∃ n,oK (enter (eO D n) D) l o env h=some r:=by
 unfold oK at hs
 split at hs
 ·rename_i v h' h1
  obtain⟨n,hn⟩:=xF h1
  exact⟨n,by unfold oK;rw[hn];exact hs⟩
 ·cases hs
theorem Me{D:dA}{l q:Nat}{L:dF}{o:DOp}{env:Env}{h:aA}{r:DV×aA×dF}(hs:dP (fc D) l q L o env h=some r):∃ n,dP (enter (eO D n) D) l q L o env h=some r:=by
 unfold dP at hs
 split at hs
 ·rename_i id hp
  exact⟨0,by unfold dP;rw[hp];exact hs⟩
 ·rename_i hp
  split at hs
  ·rename_i v h' h1
   obtain⟨n,hn⟩:=Ua h1
   exact⟨n,by unfold dP;rw[hp];simp only;rw[hn];exact hs⟩
  ·exact absurd hs (vM _ _ _ _ _ _ _)
theorem Si{D:dA}:∀(ops:List aZ) {env:Env} {h:aA} {r:Env×aA},iY (fc D) ops env h=some r→∃ n,iY (enter (eO D n) D) ops env h=some r:=by
 intro ops
 induction ops with
 | nil=>intro env h r hs;exact⟨0,hs⟩
 | cons o ops ih =>
  intro env h r hs
  simp only[iY]at hs
  split at hs
  ·rename_i hw
   split at hs
   ·rename_i v h' h1
    obtain⟨n1,k1⟩:=xF h1
    obtain⟨n2,k2⟩:=ih hs
    refine⟨max n1 n2,?_⟩
    simp only[iY,hw]
    rw[xG (mX (jW D (Nat.le_max_left n1 n2)) D) k1]
    exact Ep (mX (jW D (Nat.le_max_right n1 n2)) D) _ k2
   ·cases hs
  ·rename_i hw
   obtain⟨n2,k2⟩:=ih hs
   exact⟨n2,by simp only[iY,hw];exact k2⟩
  ·cases hs
theorem Nf{D:dA}:∀(ops:List aZ) {env:Env} {hs:List aA} {L:dF} {r:Env×aA},eK (fc D) ops env hs L=some r→∃ n,eK (enter (eO D n) D) ops env hs L=some r:=by
 intro ops
 induction ops with
 | nil=>intro env h L r hs;exact⟨0,hs⟩
 | cons o ops ih =>
  intro env hs L r he
  cases hs with
  | nil=>simp[eK]at he
  | cons h hs =>
   simp only[eK]at he
   split at he
   ·cases he
   ·rename_i hw
    split at he
    ·rename_i hk
     split at he
     ·rename_i tC
      split at he
      ·rename_i h0 hsn
       split at he
       ·rename_i v h1 dK
        obtain⟨n,hn⟩:=ih he
        exact⟨n,by simp only[eK,hw,hk,hsn,dK,if_pos tC];exact hn⟩
       ·cases he
      ·cases he
     ·cases he
    ·rename_i hk
     split at he
     ·rename_i v h' h1
      obtain⟨n1,k1⟩:=xF h1
      obtain⟨n2,k2⟩:=ih he
      refine⟨max n1 n2,?_⟩
      simp only[eK,hw,hk]
      rw[xG (mX (jW D (Nat.le_max_left n1 n2)) D) k1]
      exact vK (mX (jW D (Nat.le_max_right n1 n2)) D) _ k2
     ·cases he
    ·rename_i hk
     split at he
     ·rename_i h0 hsn
      split at he
      ·rename_i v h' L' h1
       obtain⟨n1,k1⟩:=Me h1
       obtain⟨n2,k2⟩:=ih he
       refine⟨max n1 n2,?_⟩
       simp only[eK,hw,hk,hsn]
       rw[Gn (mX (jW D (Nat.le_max_left n1 n2)) D) k1]
       exact vK (mX (jW D (Nat.le_max_right n1 n2)) D) _ k2
      ·cases he
     ·cases he
   ·rename_i hw
    obtain⟨n2,k2⟩:=ih he
    exact⟨n2,by simp only[eK,hw];exact k2⟩
section
variable (D:dA) (env:Env) (h:aA)
theorem UN:ev D .skip env h=.ok .normal env h:=fQ.2 ⟨1,rfl⟩
theorem UP(id:Nat):ev D (.exit id) env h=.ok (.exit id) env h:=fQ.2 ⟨1,rfl⟩
theorem t6:ev D .ret env h=.ok .ret env h:=fQ.2 ⟨1,rfl⟩
theorem s6(a b:aN):ev D (.seq a b) env h=match ev D a env h with
  | .ok .normal env h=>ev D b env h
  | r=>r:=by
 apply yN
 intro e cL h'
 constructor
 ·intro hs
  obtain⟨n,hn⟩:=fQ.1 hs
  cases n with
  | zero=>cases hn
  | succ n =>
   simp only[eO]at hn
   split at hn
   ·rename_i h1
    rw[fQ.2 ⟨n,h1⟩]
    exact fQ.2 ⟨n,hn⟩
   ·rename_i eG
    rw[fQ.2 ⟨n,hn⟩]
    cases e with
    | normal=>exact absurd hn (eG _ _)
    | _=>rfl
 ·intro hs
  split at hs
  ·rename_i env1 h1 hv
   obtain⟨n1,k1⟩:=fQ.1 hv
   obtain⟨n2,k2⟩:=fQ.1 hs
   refine fQ.2 ⟨max n1 n2+1,?_⟩
   simp only[eO]
   rw[jW D (Nat.le_max_left n1 n2) _ _ _ _ _ _ k1]
   exact jW D (Nat.le_max_right n1 n2) _ _ _ _ _ _ k2
  ·rename_i eG
   obtain⟨n1,k1⟩:=fQ.1 hs
   refine fQ.2 ⟨n1+1,?_⟩
   simp only[eO]
   rw[k1]
   cases e with
   | normal=>exact absurd hs (eG _ _)
   | _=>rfl
theorem UR(c:Opd)(a b:aN):ev D (.cond c a b) env h=match c.eval env with
  | .bool true=>ev D a env h
  | .bool false=>ev D b env h
  | _=>.fail:=by
 apply yN
 intro e cL h'
 constructor
 ·intro hs
  obtain⟨n,hn⟩:=fQ.1 hs
  cases n with
  | zero=>cases hn
  | succ n =>
   simp only[eO]at hn
   split at hn
   ·rename_i hc;rw[hc];exact fQ.2 ⟨n,hn⟩
   ·rename_i hc;rw[hc];exact fQ.2 ⟨n,hn⟩
   ·cases hn
 ·intro hs
  split at hs
  ·rename_i hc
   obtain⟨n1,k1⟩:=fQ.1 hs
   exact fQ.2 ⟨n1+1,by simp only[eO,hc];exact k1⟩
  ·rename_i hc
   obtain⟨n1,k1⟩:=fQ.1 hs
   exact fQ.2 ⟨n1+1,by simp only[eO,hc];exact k1⟩
  ·cases hs
theorem OU(id:Nat)(b:aN):ev D (.block id b) env h=match ev D b env h with
  | .ok (.exit id') env h=>if id'=id then .ok .normal env h else .ok (.exit id') env h
  | r=>r:=by
 apply yN
 intro e cL h'
 constructor
 ·intro hs
  obtain⟨n,hn⟩:=fQ.1 hs
  cases n with
  | zero=>cases hn
  | succ n =>
   simp only[eO]at hn
   split at hn
   ·rename_i h1
    rw[fQ.2 ⟨n,h1⟩]
    exact hn
   ·rename_i eG
    rw[fQ.2 ⟨n,hn⟩]
    cases e with
    | exit i=>exact absurd hn (eG _ _ _)
    | _=>rfl
 ·intro hs
  split at hs
  ·rename_i h1
   obtain⟨n1,k1⟩:=fQ.1 h1
   exact fQ.2 ⟨n1+1,by simp only[eO];rw[k1];exact hs⟩
  ·rename_i eG
   obtain⟨n1,k1⟩:=fQ.1 hs
   refine fQ.2 ⟨n1+1,?_⟩
   simp only[eO]
   rw[k1]
   cases e with
   | exit i=>exact absurd hs (eG _ _ _)
   | _=>rfl
theorem UO(b:aN):ev D (.loop b) env h=match ev D b env h with
  | .ok .normal env h=>ev D (.loop b) env h
  | r=>r:=by
 apply yN
 intro e cL h'
 constructor
 ·intro hs
  obtain⟨n,hn⟩:=fQ.1 hs
  cases n with
  | zero=>cases hn
  | succ n =>
   simp only[eO]at hn
   split at hn
   ·rename_i h1
    rw[fQ.2 ⟨n,h1⟩]
    exact fQ.2 ⟨n,hn⟩
   ·rename_i eG
    rw[fQ.2 ⟨n,hn⟩]
    cases e with
    | normal=>exact absurd hn (eG _ _)
    | _=>rfl
 ·intro hs
  split at hs
  ·rename_i env1 h1 hv
   obtain⟨n1,k1⟩:=fQ.1 hv
   obtain⟨n2,k2⟩:=fQ.1 hs
   refine fQ.2 ⟨max n1 n2+1,?_⟩
   simp only[eO]
   rw[jW D (Nat.le_max_left n1 n2) _ _ _ _ _ _ k1]
   exact jW D (Nat.le_max_right n1 n2) _ _ _ _ _ _ k2
  ·rename_i eG
   obtain⟨n1,k1⟩:=fQ.1 hs
   refine fQ.2 ⟨n1+1,?_⟩
   simp only[eO]
   rw[k1]
   cases e with
   | normal=>exact absurd hs (eG _ _)
   | _=>rfl
theorem GZ(ops:List aZ):ev D (.region ops) env h=match iY (fc D) ops env h with
  | some (env,h)=>.ok .normal env h
  | none=>.fail:=by
 apply yN
 intro e cL h'
 constructor
 ·intro hs
  obtain⟨n,hn⟩:=fQ.1 hs
  cases n with
  | zero=>cases hn
  | succ n =>
   simp only[eO]at hn
   split at hn
   ·rename_i h1
    rw[Ep (Mj D n) _ h1];exact hn
   ·cases hn
 ·intro hs
  split at hs
  ·rename_i h1
   obtain⟨n1,k1⟩:=Si _ h1
   exact fQ.2 ⟨n1+1,by simp only[eO];rw[k1];exact hs⟩
  ·cases hs
theorem UQ(ops:List aZ):ev D (.draw ops) env h=match eK (fc D) ops env [h] .start with
  | some (env,h)=>.ok .normal env h
  | none=>.fail:=by
 apply yN
 intro e cL h'
 constructor
 ·intro hs
  obtain⟨n,hn⟩:=fQ.1 hs
  cases n with
  | zero=>cases hn
  | succ n =>
   simp only[eO]at hn
   split at hn
   ·rename_i h1
    rw[vK (Mj D n) _ h1];exact hn
   ·cases hn
 ·intro hs
  split at hs
  ·rename_i h1
   obtain⟨n1,k1⟩:=Nf _ h1
   exact fQ.2 ⟨n1+1,by simp only[eO];rw[k1];exact hs⟩
  ·cases hs
theorem Zr(f:Nat)(args:List DV):fc D f args h=match D.hook f with
  | some hk=>hk h args
  | none=>match D.fn f with
   | none=>none
   | some df=>dW (ev D) df args h:=xW _ _ _ _ _
end
end Go.Dm
namespace Go.Dm
abbrev cY:=Nat→DV
def tab(N:Nat)(f:cY):Env:=(List.range N).map f
def upd(f:cY)(d:Nat)(v:DV):cY:=fun i=>if i=d then v else f i
def tZ(f:cY)(dst:Option Nat)(v:DV):cY:=match dst with|some d=>upd f d v|none=>f
def rd(N:Nat)(f:cY)(i:Nat):DV:=if i<N then f i else .unk
def PX(args:List DV):cY:=fun i=>args.getD i cH
theorem yL(N:Nat)(f:cY)(i:Nat):(tab N f)[i]?=if i<N then some (f i)else none:=by
 by_cases h:i<N
 ·simp[tab,h]
 ·simp only[tab,List.getElem?_map,if_neg h]
  rw[List.getElem?_eq_none (by simp;omega)];rfl
theorem Im(N:Nat)(f:cY)(i:Nat):((tab N f)[i]?).getD .unk=rd N f i:=by
 rw[yL];unfold rd;split<;>rfl
theorem RM(N:Nat)(f:cY)(d:Nat)(v:DV):(tab N f).set d v=tab N (upd f d v):=by
 apply List.ext_getElem?
 intro i
 rw[List.getElem?_set,yL,yL]
 simp only[tab,List.length_map,List.length_range,upd]
 by_cases e:d=i
 ·subst e
  by_cases h:d<N<;>simp[h]
 ·have e':¬i=d:=fun q=>e q.symm
  simp only[if_neg e,if_neg e']
theorem sW(N:Nat)(f:cY)(dst:Option Nat)(v:DV):put (tab N f) dst v=tab N (tZ f dst v):=by
 cases dst with
 | none=>rfl
 | some d=>exact RM N f d v
theorem JY(N:Nat)(args:List DV)(h:args.length≤N):args++List.replicate (N-args.length) cH=tab N (PX args):=by
 apply List.ext_getElem?
 intro i
 rw[yL,List.getElem?_append]
 unfold PX
 by_cases h1:i<args.length
 ·rw[if_pos h1,if_pos (by omega)]
  simp[h1]
 ·rw[if_neg h1]
  by_cases h2:i<N
  ·rw[if_pos h2,List.getElem?_replicate,if_pos (by omega),List.getD_eq_getElem?_getD,List.getElem?_eq_none (by omega)];rfl
  ·rw[if_neg h2,List.getElem?_replicate,if_neg (by omega)]
theorem o8(N:Nat)(f:cY)(i:Nat):Opd.eval (tab N f) (.t i)=rd N f i:=Im N f i
theorem p9(env:Env)(v:DV):Opd.eval env (.c v)=v:=rfl
inductive Fr where
 | seq (b:aN)
 | block (id:Nat)
 | loop (b:aN)
noncomputable def Al(D:dA):List Fr→Ex→Env→aA→Res
 | [],e,env,h=>.ok e env h
 | .seq b::S,e,env,h=>match e with
  | .normal=>match ev D b env h with
   | .ok e env h=>Al D S e env h
   | .fail=>.fail
  | e=>Al D S e env h
 | .block id::S,e,env,h=>Al D S (match e with|.exit i=>if i=id then .normal else .exit i|e=>e) env h
 | .loop b::S,e,env,h=>match e with
  | .normal=>match ev D (.loop b) env h with
   | .ok e env h=>Al D S e env h
   | .fail=>.fail
  | e=>Al D S e env h
noncomputable def after(D:dA)(S:List Fr):Res→Res
 | .ok e env h=>Al D S e env h
 | .fail=>.fail
noncomputable def run(D:dA)(N:Nat)(S:List Fr)(c:aN)(f:cY)(h:aA):Res:=after D S (ev D c (tab N f) h)
noncomputable def ret(D:dA)(N:Nat)(S:List Fr)(e:Ex)(f:cY)(h:aA):Res:=Al D S e (tab N f) h
noncomputable def LX(D:dA)(N:Nat)(S:List Fr)(a b:aN)(f:cY)(h:aA):DV→Res
 | .bool true=>run D N S a f h
 | .bool false=>run D N S b f h
 | _=>.fail
noncomputable def Cn(D:dA)(N:Nat)(S:List Fr)(ops:List aZ)(f:cY)(h:aA):Res :=
 match iY (fc D) ops (tab N f) h with
 | some (env,h)=>Al D S .normal env h
 | none=>.fail
noncomputable def EO(D:dA)(N:Nat)(S:List Fr)(dst:Option Nat)(r:List aZ)(f:cY):Option (DV×aA)→Res
 | some (v,h)=>Cn D N S r (tZ f dst v) h
 | none=>.fail
noncomputable def ER(D:dA)(N:Nat)(S:List Fr)(o:aZ)(w:Bool)(r:List aZ)(f:cY)(h:aA):DV→Res
 | .bool b=>if b=w then EO D N S o.dst r f (cG (fc D) o.op (tab N f) h)else Cn D N S r (tZ f o.dst cH) h
 | .tup _=>Cn D N S r (tZ f o.dst cH) h
 | _=>.fail
noncomputable def xA(D:dA)(N:Nat)(S:List Fr)(ops:List aZ)(f:cY)(hs:List aA)(L:dF):Res :=
 match eK (fc D) ops (tab N f) hs L with
 | some (env,h)=>Al D S .normal env h
 | none=>.fail
noncomputable def AL(D:dA)(N:Nat)(S:List Fr)(dst:Option Nat)(r:List aZ)(f:cY)(hs:List aA)(L:dF):Option (DV×aA)→Res
 | some (v,_)=>xA D N S r (tZ f dst v) hs L
 | none=>.fail
noncomputable def AK(D:dA)(N:Nat)(S:List Fr)(dst:Option Nat)(r:List aZ)(f:cY)(hs:List aA)(L:dF):Option (DV×aA)→Res
 | some (v,h)=>xA D N S r (tZ f dst v) (h::hs) L
 | none=>.fail
noncomputable def AJ(D:dA)(N:Nat)(S:List Fr)(dst:Option Nat)(r:List aZ)(f:cY)(hs:List aA):Option (DV×aA×dF)→Res
 | some (v,h,L)=>xA D N S r (tZ f dst v) (h::hs) L
 | none=>.fail
noncomputable def Xi(D:dA)(N:Nat)(S:List Fr)(dst:Option Nat)(op:DOp)(cm:Bool)(r:List aZ)(f:cY)(hs:List aA)(L:dF):Option aA→Res
 | some h0=>AL D N S dst r f hs (L.see cm (mark (tab N f) op)) (aK h0 (tab N f) op)
 | none=>.fail
noncomputable def AM(D:dA)(N:Nat)(S:List Fr)(dst:Option Nat)(op:DOp)(r:List aZ)(f:cY)(h:aA)(gs:List aA)(L:dF):Option aA→Res
 | some h0=>AJ D N S dst r f (h::gs) (dP (fc D) h0.n gs.length L op (tab N f) h)
 | none=>.fail
noncomputable def Co(D:dA)(N:Nat)(S:List Fr)(dst:Option Nat)(op:DOp)(snap:Nat)(cm:Bool)(r:List aZ)(f:cY)(hs:List aA)(L:dF):uZ→Res
 | .read=>if L.free snap (cK (tab N f) op)=true then Xi D N S dst op cm r f hs L (kK hs snap)else .fail
 | .write=>match hs with
  | h::_=>AK D N S dst r f hs L (cG (fc D) op (tab N f) h)
  | []=>.fail
 | .create=>match hs with
  | h::gs=>AM D N S dst op r f h gs L (kK hs snap)
  | []=>.fail
noncomputable def zR(D:dA)(N:Nat)(S:List Fr)(dst:Option Nat)(k:uZ)(r:List aZ)(f:cY)(L:dF):List aA→Res
 | h::hs=>xA D N S r (tZ f dst cH) (if k=.read then h::hs else h::h::hs) L
 | []=>.fail
noncomputable def Xk(D:dA)(N:Nat)(S:List Fr)(o:aZ)(w:Bool)(r:List aZ)(f:cY)(hs:List aA)(L:dF):DV→Res
 | .bool b=>if b=w then Co D N S o.dst o.op o.snap o.calm r f hs L o.kind else zR D N S o.dst o.kind r f L hs
 | .tup _=>zR D N S o.dst o.kind r f L hs
 | _=>.fail
noncomputable def BX(D:dA)(as:List DV)(h:aA):DV→Option (DV×aA)
 | .func g cap=>fc D g (as++cap) h
 | _=>none
section
variable (D:dA) (N:Nat) (S:List Fr) (f:cY) (h:aA)
theorem LN:run D N S .skip f h=ret D N S .normal f h:=by unfold run;rw[UN];rfl
theorem LP(id:Nat):run D N S (.exit id) f h=ret D N S (.exit id) f h:=by unfold run;rw[UP];rfl
theorem SI:run D N S .ret f h=ret D N S .ret f h:=by unfold run;rw[t6];rfl
theorem SH(a b:aN):run D N S (.seq a b) f h=run D N (.seq b::S) a f h:=by
 unfold run
 rw[s6]
 cases ev D a (tab N f) h with
 | fail=>rfl
 | ok e env h1 =>
  cases e<;>simp only[after,Al]
theorem LR(c:Opd)(a b:aN):run D N S (.cond c a b) f h=LX D N S a b f h (c.eval (tab N f)):=by
 unfold run
 rw[UR]
 unfold LX
 split<;>simp_all[run,after]
theorem EL(id:Nat)(b:aN):run D N S (.block id b) f h=run D N (.block id::S) b f h:=by
 unfold run
 rw[OU]
 cases ev D b (tab N f) h with
 | fail=>rfl
 | ok e env h1 =>
  cases e with
  | exit i =>
   by_cases e:i=id
   ·simp only[after,Al,if_pos e]
   ·simp only[after,Al,if_neg e]
  | _=>rfl
theorem LO(b:aN):run D N S (.loop b) f h=run D N (.loop b::S) b f h:=by
 unfold run
 rw[UO]
 cases ev D b (tab N f) h with
 | fail=>rfl
 | ok e env h1 =>
  cases e<;>simp only[after,Al]
theorem N0(ops:List aZ):run D N S (.region ops) f h=Cn D N S ops f h:=by
 unfold run Cn
 rw[GZ]
 cases iY (fc D) ops (tab N f) h<;>rfl
theorem LQ(ops:List aZ):run D N S (.draw ops) f h=xA D N S ops f [h] .start:=by
 unfold run xA
 rw[UQ]
 cases eK (fc D) ops (tab N f) [h] .start<;>rfl
theorem EU(a b:aN):LX D N S a b f h (.bool true)=run D N S a f h:=rfl
theorem O2(a b:aN):LX D N S a b f h (.bool false)=run D N S b f h:=rfl
theorem LW(a b:aN)(t:Bool):LX D N S a b f h (.bool t)=if t=true then run D N S a f h else run D N S b f h:=by cases t<;>rfl
theorem SK(e:Ex):ret D N [] e f h=.ok e (tab N f) h:=rfl
theorem SJ(b:aN):ret D N (.seq b::S) .normal f h=run D N S b f h:=by
 unfold ret run;simp only[Al];cases ev D b (tab N f) h<;>rfl
theorem So(b:aN)(i:Nat):ret D N (.seq b::S) (.exit i) f h=ret D N S (.exit i) f h:=rfl
theorem Xl(b:aN):ret D N (.seq b::S) .ret f h=ret D N S .ret f h:=rfl
theorem EW(id:Nat):ret D N (.block id::S) .normal f h=ret D N S .normal f h:=rfl
theorem Ni(id:Nat):ret D N (.block id::S) .ret f h=ret D N S .ret f h:=rfl
theorem Ju(id i:Nat):ret D N (.block id::S) (.exit i) f h=ret D N S (if i=id then .normal else .exit i) f h:=rfl
theorem LY(b:aN):ret D N (.loop b::S) .normal f h=run D N S (.loop b) f h:=by
 unfold ret run;simp only[Al];cases ev D (.loop b) (tab N f) h<;>rfl
theorem Nh(b:aN)(i:Nat):ret D N (.loop b::S) (.exit i) f h=ret D N S (.exit i) f h:=rfl
theorem Sp(b:aN):ret D N (.loop b::S) .ret f h=ret D N S .ret f h:=rfl
theorem LT:Cn D N S [] f h=ret D N S .normal f h:=rfl
theorem EP(dst:Option Nat)(op:DOp)(k:uZ)(s:Nat)(cm:Bool)(r:List aZ) :
  Cn D N S (⟨dst,op,none,k,s,cm⟩::r) f h=EO D N S dst r f (cG (fc D) op (tab N f) h):=by
 unfold Cn
 simp only[iY,jV]
 cases cG (fc D) op (tab N f) h with
 | none=>rfl
 | some p=>simp only[EO,sW];rfl
theorem N1(dst:Option Nat)(op:DOp)(t:Nat)(w:Bool)(k:uZ)(s:Nat)(cm:Bool)(r:List aZ) :
  Cn D N S (⟨dst,op,some (t,w),k,s,cm⟩::r) f h=ER D N S ⟨dst,op,some (t,w),k,s,cm⟩ w r f h (rd N f t):=by
 unfold Cn
 simp only[iY,jV,yL]
 unfold rd
 by_cases bD:t<N
 ·simp only[if_pos bD]
  cases hv:f t with
  | bool b =>
   simp only[ER]
   by_cases e:b=w
   ·subst e
    simp only[beq_self_eq_true,if_true]
    cases cG (fc D) op (tab N f) h with
    | none=>rfl
    | some p=>simp only[EO,sW];rfl
   ·have:(b == w)=false:=by simpa using e
    simp only[this,if_neg e,sW];rfl
  | tup l=>simp only[ER,sW];rfl
  | _=>rfl
 ·simp only[if_neg bD];rfl
theorem EM(dst:Option Nat)(r:List aZ)(v:DV):EO D N S dst r f (some (v,h))=Cn D N S r (tZ f dst v) h:=rfl
theorem EQ(o:aZ)(w:Bool)(r:List aZ)(b:Bool):ER D N S o w r f h (.bool b)=if b=w then EO D N S o.dst r f (cG (fc D) o.op (tab N f) h)else Cn D N S r (tZ f o.dst cH) h:=rfl
theorem LU(o:aZ)(w:Bool)(r:List aZ)(l:List DV):ER D N S o w r f h (.tup l)=Cn D N S r (tZ f o.dst cH) h:=rfl
variable (hs:List aA) (L:dF)
theorem LV:xA D N S [] f (h::hs) L=ret D N S .normal f h:=rfl
theorem Ol(dst:Option Nat)(op:DOp)(k:uZ)(s:Nat)(cm:Bool)(r:List aZ)(g:Option (Nat×Bool)) :
  xA D N S (⟨dst,op,g,k,s,cm⟩::r) f (h::hs) L=(match jV (tab N f) g with
   | none=>.fail
   | some true=>Co D N S dst op s cm r f (h::hs) L k
   | some false=>zR D N S dst k r f L (h::hs)):=by
 unfold xA
 simp only[eK]
 cases jV (tab N f) g with
 | none=>rfl
 | some t =>
  cases t with
  | false=>simp only[zR,sW];rfl
  | true =>
   simp only[Co]
   cases k with
   | read =>
    simp only
    by_cases tC:L.free s (cK (tab N f) op)=true
    ·simp only[if_pos tC,Xi]
     cases kK (h::hs) s with
     | none=>rfl
     | some h0 =>
      simp only
      cases aK h0 (tab N f) op with
      | none=>rfl
      | some p=>simp only[AL,sW];rfl
    ·simp only[if_neg tC]
   | write =>
    simp only
    cases cG (fc D) op (tab N f) h with
    | none=>rfl
    | some p=>simp only[AK,sW];rfl
   | create =>
    simp only[AM]
    cases kK (h::hs) s with
    | none=>rfl
    | some h0 =>
     simp only
     cases dP (fc D) h0.n hs.length L op (tab N f) h with
     | none=>rfl
     | some p=>simp only[AJ,sW];rfl
theorem ES(dst:Option Nat)(op:DOp)(k:uZ)(s:Nat)(cm:Bool)(r:List aZ) :
  xA D N S (⟨dst,op,none,k,s,cm⟩::r) f (h::hs) L=Co D N S dst op s cm r f (h::hs) L k:=by rw[Ol];rfl
theorem N3(dst:Option Nat)(op:DOp)(t:Nat)(w:Bool)(k:uZ)(s:Nat)(cm:Bool)(r:List aZ) :
  xA D N S (⟨dst,op,some (t,w),k,s,cm⟩::r) f (h::hs) L=Xk D N S ⟨dst,op,some (t,w),k,s,cm⟩ w r f (h::hs) L (rd N f t):=by
 rw[Ol]
 simp only[jV,yL]
 unfold rd
 by_cases bD:t<N
 ·simp only[if_pos bD]
  cases hv:f t with
  | bool b =>
   simp only[Xk]
   by_cases e:b=w
   ·subst e;simp
   ·have:(b == w)=false:=by simpa using e
    simp only[this,if_neg e]
  | _=>rfl
 ·simp only[if_neg bD];rfl
theorem O0(o:aZ)(w:Bool)(r:List aZ)(b:Bool):Xk D N S o w r f hs L (.bool b)=if b=w then Co D N S o.dst o.op o.snap o.calm r f hs L o.kind else zR D N S o.dst o.kind r f L hs:=rfl
theorem ET(o:aZ)(w:Bool)(r:List aZ)(l:List DV):Xk D N S o w r f hs L (.tup l)=zR D N S o.dst o.kind r f L hs:=rfl
theorem N7(dst:Option Nat)(r:List aZ):zR D N S dst .read r f L (h::hs)=xA D N S r (tZ f dst cH) (h::hs) L:=rfl
theorem Xf(dst:Option Nat)(r:List aZ):zR D N S dst .write r f L (h::hs)=xA D N S r (tZ f dst cH) (h::h::hs) L:=rfl
theorem Sk(dst:Option Nat)(r:List aZ):zR D N S dst .create r f L (h::hs)=xA D N S r (tZ f dst cH) (h::h::hs) L:=rfl
theorem N8(dst:Option Nat)(op:DOp)(s:Nat)(cm:Bool)(r:List aZ):Co D N S dst op s cm r f hs L .read=if L.free s (cK (tab N f) op)=true then Xi D N S dst op cm r f hs L (kK hs s)else .fail:=rfl
theorem Xg(dst:Option Nat)(op:DOp)(s:Nat)(cm:Bool)(r:List aZ):Co D N S dst op s cm r f (h::hs) L .write=AK D N S dst r f (h::hs) L (cG (fc D) op (tab N f) h):=rfl
theorem Sl(dst:Option Nat)(op:DOp)(s:Nat)(cm:Bool)(r:List aZ):Co D N S dst op s cm r f (h::hs) L .create=AM D N S dst op r f h hs L (kK (h::hs) s):=rfl
theorem N9(dst:Option Nat)(op:DOp)(cm:Bool)(r:List aZ)(h0:aA):Xi D N S dst op cm r f hs L (some h0)=AL D N S dst r f hs (L.see cm (mark (tab N f) op)) (aK h0 (tab N f) op):=rfl
theorem O1(dst:Option Nat)(op:DOp)(r:List aZ)(h0:aA):AM D N S dst op r f h hs L (some h0)=AJ D N S dst r f (h::hs) (dP (fc D) h0.n hs.length L op (tab N f) h):=rfl
theorem N6(dst:Option Nat)(r:List aZ)(v:DV):AL D N S dst r f hs L (some (v,h))=xA D N S r (tZ f dst v) hs L:=rfl
theorem N5(dst:Option Nat)(r:List aZ)(v:DV):AK D N S dst r f hs L (some (v,h))=xA D N S r (tZ f dst v) (h::hs) L:=rfl
theorem N4(dst:Option Nat)(r:List aZ)(v:DV):AJ D N S dst r f hs (some (v,h,L))=xA D N S r (tZ f dst v) (h::hs) L:=rfl
theorem EC(k:Nat):kK hs k=hs.reverse[k]?:=by
 unfold kK
 split
 ·rename_i hk;rw[List.getElem?_reverse hk]
 ·rename_i hk;rw[List.getElem?_eq_none (by simp;omega)]
theorem P5(g:Opd)(args:List Opd)(env:Env):cG (fc D) (.call g args) env h=BX D (args.map (Opd.eval env)) h (g.eval env):=by
 simp only[cG,BX]
 split<;>simp_all
theorem W0(as:List DV)(g:Nat)(cap:List DV):BX D as h (.func g cap)=fc D g (as++cap) h:=rfl
def fin(rs:List Ob):Res→Option (DV×aA)
 | .ok (.exit _) _ _=>none
 | .ok _ env h'=>match aI h' env rs with
  | some v=>some (v,h')
  | none=>none
 | .fail=>none
def OR(h:aA):Option DV→Option (DV×aA)
 | some v=>some (v,h)
 | none=>none
theorem UM(rs:List Ob)(env:Env):fin rs (.ok .ret env h)=OR h (aI h env rs):=by
 unfold fin OR;rfl
theorem T8(rs:List Ob)(env:Env):fin rs (.ok .normal env h)=OR h (aI h env rs):=by
 unfold fin OR;rfl
theorem GU(v:DV):OR h (some v)=some (v,h):=rfl
theorem aJ(df:aQ)(args:List DV)(hl:args.length≤df.ntmps):iV (ev D) df args h=fin df.results (run D df.ntmps [] df.body (PX args) h):=by
 unfold iV run
 rw[JY _ _ hl]
 cases ev D df.body (tab df.ntmps (PX args)) h with
 | fail=>rfl
 | ok e env h1=>cases e<;>rfl
theorem Nk(env:Env)(r:Ob):aI h env [r]=lO h env r:=rfl
theorem O3(n:Nat):lO h (tab N f) (.t n)=some (rd N f n):=by simp only[lO,Im]
theorem Nl(a:Nat)(n:Option Nat):lO h (tab N f) (.cell a n)=lR h n (rd N f a):=by simp only[lO,Im]
end
def pB:aA:={objs:=[],n:=0,lim:=0}
noncomputable def dC(o:Option (DV×aA)):Option DV :=
 match o with
 | some (v,h')=>match resolve false h' cW v with
  | some d=>if bJ cW d then some d else none
  | none=>none
 | none=>none
noncomputable def pcF(D:dA)(df:aQ)(ds:List DV):Option DV:=dC (iV (ev D) df ds pB)
def dZ(h:aA):Option DV→Option (DV×aA)
 | some d=>some (d,h)
 | none=>none
theorem Bq(h:aA)(d:DV):dZ h (some d)=some (d,h):=rfl
noncomputable def Gv(D:dA)(df:aQ)(h:aA):Option (List DV)→Option (DV×aA)
 | some ds=>dZ h (pcF D df ds)
 | none=>none
theorem Br(D:dA)(df:aQ)(h:aA)(ds:List DV):Gv D df h (some ds)=dZ h (pcF D df ds):=rfl
theorem bA{D:dA}{f:Nat}{df:aQ}(hh:D.hook f=none)(hf:D.fn f=some df)(hm:df.mode=.pure)(args:List DV)(h:aA) :
  fc D f args h=Gv D df h (args.mapM (resolve true h cW)):=by
 rw[Zr,hh,hf]
 simp only
 unfold dW
 rw[hm]
 simp only
 cases args.mapM (resolve true h cW)with
 | none=>rfl
 | some ds =>
  simp only[Gv,pcF,dC,pB,dZ]
  cases iV (ev D) df ds {objs:=[],n:=0,lim:=0} with
  | none=>rfl
  | some p =>
   obtain⟨v,h'⟩:=p
   simp only
   cases resolve false h' cW v with
   | none=>rfl
   | some d =>
    simp only
    split<;>rfl
noncomputable def BW(D:dA)(df:aQ):Option (List DV×aA)→Option (DV×aA)
 | some (as,h)=>Gv D df h (as.mapM (resolve true h cW))
 | none=>none
theorem V9(D:dA)(df:aQ)(as:List DV)(h:aA):BW D df (some (as,h))=Gv D df h (as.mapM (resolve true h cW)):=rfl
theorem iN{D:dA}{f:Nat}{df:aQ}(hh:D.hook f=none)(hf:D.fn f=some df)(hm:df.mode=.frz)(args:List DV)(h:aA) :
  fc D f args h=BW D df (vQ jH h args):=by
 rw[Zr,hh,hf]
 simp only
 unfold dW
 rw[hm]
 simp only
 cases vQ jH h args with
 | none=>rfl
 | some p =>
  obtain⟨as,h1⟩:=p
  simp only[BW]
  cases as.mapM (resolve true h1 cW)with
  | none=>rfl
  | some ds =>
   simp only[Gv,pcF,dC,pB,dZ]
   cases iV (ev D) df ds {objs:=[],n:=0,lim:=0} with
   | none=>rfl
   | some p =>
    obtain⟨v,h'⟩:=p
    simp only
    cases resolve false h' cW v with
    | none=>rfl
    | some d =>
     simp only
     split<;>rfl
theorem oO{D:dA}{f:Nat}{df:aQ}(hh:D.hook f=none)(hf:D.fn f=some df)(hm:df.mode=.full)(args:List DV)(h:aA) :
  fc D f args h=iV (ev D) df args h:=by
 rw[Zr,hh,hf]
 simp only
 unfold dW
 rw[hm]
theorem qA{D:dA}{f:Nat}{hk:wQ}(hh:D.hook f=some hk)(args:List DV)(h:aA):fc D f args h=hk h args:=by
 rw[Zr,hh]
end Go.Dm
namespace Go.Dm
def WF(h:aA):Prop:=h.objs.length=h.n
theorem JD:WF pB:=rfl
theorem WF.push{h:aA}{o:DO}(w:WF h):WF (h.push o):=by unfold WF at *;simp[aA.push,w]
theorem WF.set{h:aA}{id:Nat}{o:DO}(w:WF h):WF (h.set id o):=by unfold WF at *;simp[aA.set,w]
theorem WF.lim{h:aA}{l:Nat}(w:WF h):WF {h with lim:=l}:=w
theorem Sv{h:aA}{o o':DO}{id:Nat}(fS:id<h.n):(h.push o).set id o'=(h.set id o').push o:=by
 have e:h.n-id=(h.n-1-id)+1:=by omega
 simp[aA.push,aA.set]
 rw[e];rfl
theorem Xr{h:aA}{o o':DO}{id:Nat}:(h.push o).set id o'=if id<h.n then(h.set id o').push o else h.push o':=by
 split
 ·rename_i fS;exact Sv fS
 ·rename_i fS
  have e:h.n-id=0:=by omega
  simp[aA.push,aA.set]
  rw[e];rfl
theorem AG{h:aA}{id:Nat}{o:DO}:(h.set id o).n=h.n:=rfl
theorem cA{h:aA}(w:WF h){id k:Nat}{o:DO}(fS:id<h.n):(h.set id o).get k=if k=id then some o else h.get k:=by
 unfold WF at w
 by_cases e:k=id
 ·subst e
  rw[if_pos rfl]
  simp only[aA.get,aA.set,if_pos fS]
  rw[List.getElem?_set,if_pos rfl,if_pos (by omega)]
  exact if_pos fS
 ·rw[if_neg e];exact dJ fS e
theorem bB{h:aA}{id:Nat}{o:DO}(hg:h.get id=some o):id<h.n:=iD hg
def MN(c a b:DV):Option DV:=match c with|.bool t=>some (if t then a else b)|_=>none
theorem P3(t:Bool)(a b:DV):MN (.bool t) a b=some (if t then a else b):=rfl
def yQ:DV→Option DV
 | .ptr id sz idx off=>some (.ptr id sz idx off)
 | .iptr l cs off=>some (.iptr l cs off)
 | _=>none
theorem Nn(id sz idx off:Nat):yQ (.ptr id sz idx off)=some (.ptr id sz idx off):=rfl
theorem Kg(l:Bool)(cs:List DV)(off:Nat):yQ (.iptr l cs off)=some (.iptr l cs off):=rfl
def u6(neq:Bool):DV→DV→Option DV
 | .bool a,.bool b=>some (.bool (if neq then !(a == b)else a == b))
 | _,_=>none
theorem HA(neq a b:Bool):u6 neq (.bool a) (.bool b)=some (.bool (if neq then !(a == b)else a == b)):=rfl
def Gi(neq:Bool):Option Bool→Option DV
 | some r=>some (.bool (if neq then !r else r))
 | none=>none
theorem T6(neq r:Bool):Gi neq (some r)=some (.bool (if neq then !r else r)):=rfl
def PN(k:IntKind):DV→Option DV|.int _ n=>some (.int k (k.wrap n))|_=>none
theorem HK(k k':IntKind)(n:Int):PN k (.int k' n)=some (.int k (k.wrap n)):=rfl
def W4:DV→Option DV|.str s=>some (.str s)|_=>none
theorem W3(s:List UInt8):W4 (.str s)=some (.str s):=rfl
def vZ(off:Nat):DV→Option DV
 | .ptr id sz idx o=>some (.ptr id sz idx (o+off))
 | .iptr l cs o=>some (.iptr l cs (o+off))
 | _=>none
theorem Lo(off id sz idx o:Nat):vZ off (.ptr id sz idx o)=some (.ptr id sz idx (o+off)):=rfl
theorem Hi(off:Nat)(l:Bool)(cs:List DV)(o:Nat):vZ off (.iptr l cs o)=some (.iptr l cs (o+off)):=rfl
def Ln(off:Nat)(n:Option Nat):DV→Option DV|.agg cs=>dM n cs off|_=>none
theorem U0(off:Nat)(n:Option Nat)(cs:List DV):Ln off n (.agg cs)=dM n cs off:=rfl
def bS(sz:Nat)(x i:DV):Option DV :=
 match asI i with
 | some i =>
  match x with
  | .sl id eQ off len=>if sz=eQ∧0≤i∧i<(len:Int)then some (.ptr id sz (off+i.toNat) 0)else none
  | .isl l eQ xs=>if sz=eQ∧0≤i then(match xs[i.toNat]? with|some e=>some (.iptr l (aP sz e) 0)|none=>none)else none
  | _=>none
 | none=>none
def Fd(len esz:Nat)(x i:DV):Option DV :=
 match asI i with
 | some i =>
  if 0≤i∧i<(len:Int)then
   match x with
   | .ptr id sz idx o=>some (.ptr id sz idx (o+i.toNat*esz))
   | .iptr l cs o=>some (.iptr l cs (o+i.toNat*esz))
   | _=>none
  else none
 | none=>none
def R8(len esz:Nat)(n:Option Nat)(x i:DV):Option DV :=
 match asI i,x with
 | some i,.agg cs=>if 0≤i∧i<(len:Int)then dM n cs (i.toNat*esz)else none
 | _,_=>none
def rJ(x i:DV):Option DV :=
 match asI i,x with
 | some i,.str s=>if 0≤i then(match s[i.toNat]? with|some b=>some (.int .u8 b.toNat)|none=>none)else none
 | _,_=>none
theorem Nq(s:List UInt8)(k:IntKind)(i:Nat){b:UInt8}(hb:s[i]?=some b):rJ (.str s) (.int k (i:Int))=some (.int .u8 b.toNat):=by
 simp[rJ,asI,hb]
def dQ(o:Option DV)(dflt lim:Nat):Option Nat :=
 match o with
 | none=>some dflt
 | some x=>match asI x with
  | some n=>if 0≤n∧n≤(lim:Int)then some n.toNat else none
  | none=>none
theorem Mm(env:Env)(o:Option Opd)(d l:Nat):bound env o d l=dQ (o.map (Opd.eval env)) d l:=by
 cases o<;>rfl
theorem yD(d l:Nat):dQ none d l=some d:=rfl
theorem wF(k:IntKind)(n:Int)(d l:Nat)(h0:0≤n)(h1:n≤(l:Int)):dQ (some (.int k n)) d l=some n.toNat:=by
 simp[dQ,asI,h0,h1]
def pG(x:DV)(lo hi:Option DV):Option DV :=
 match x with
 | .str s=>match dQ hi s.length s.length with
  | some b=>match dQ lo 0 b with
   | some a=>some (.str ((s.drop a).take (b-a)))
   | none=>none
  | none=>none
 | _=>none
def iI(h:aA)(sz:Nat)(x:DV)(lo hi:Option DV):Option DV :=
 match x with
 | .nsl=>match dQ hi 0 0 with
  | some b=>match dQ lo 0 b with
   | some _=>some .nsl
   | none=>none
  | none=>none
 | .isl l eQ xs=>if sz=eQ∨xs=[]then match dQ hi xs.length xs.length with
   | some b=>match dQ lo 0 b with
    | some a=>some (.isl l sz ((xs.drop a).take (b-a)))
    | none=>none
   | none=>none
  else none
 | .sl id eQ off len=>match h.get id with
  | some (.arr _ nT xs _)=>if sz=eQ∧sz=nT∧off+len≤xs.length then match dQ hi len (xs.length-off)with
    | some b=>match dQ lo 0 b with
     | some a=>some (.sl id sz (off+a) (b-a))
     | none=>none
    | none=>none
   else none
  | _=>none
 | _=>none
def lenV(h:aA)(k:Nat):DV→Option DV
 | .str s=>if k=0 then some (.int .i64 s.length)else none
 | .nsl=>if k=1 then some (.int .i64 0)else none
 | .sl _ _ _ len=>if k=1 then some (.int .i64 len)else none
 | .isl _ _ xs=>if k=1 then some (.int .i64 xs.length)else none
 | .nmap=>if k=2 then some (.int .i64 0)else none
 | .map id=>match h.get id with|some (.mp es)=>if k=2 then some (.int .i64 es.length)else none|_=>none
 | _=>none
theorem NS(h:aA)(s:List UInt8):lenV h 0 (.str s)=some (.int .i64 s.length):=rfl
theorem NT(h:aA):lenV h 1 .nsl=some (.int .i64 0):=rfl
theorem TP(h:aA)(id sz off len:Nat):lenV h 1 (.sl id sz off len)=some (.int .i64 len):=rfl
theorem NU(h:aA)(t:Bool)(sz:Nat)(xs:List DV):lenV h 1 (.isl t sz xs)=some (.int .i64 xs.length):=rfl
def Uv(h:aA)(ety sz bytes:Nat)(s:DV):Option (List DV)→Option (DV×aA)
 | some ys=>aY h ety sz bytes s ys
 | none=>none
theorem Uu(h:aA)(ety sz bytes:Nat)(s:DV)(ys:List DV):Uv h ety sz bytes s (some ys)=aY h ety sz bytes s ys:=rfl
def PJ(h:aA)(sz:Nat)(d:DV):Option (List DV)→Option (DV×aA)
 | some ys=>xZ h sz d ys
 | none=>none
theorem V3(h:aA)(sz:Nat)(d:DV)(ys:List DV):PJ h sz d (some ys)=xZ h sz d ys:=rfl
def Tj(mx:Bool):DV→DV→Option DV
 | .int k a,.int _ b=>some (.int k (if mx then(if a<b then b else a)else(if b<a then b else a)))
 | _,_=>none
theorem Yl(mx:Bool)(k k':IntKind)(a b:Int):Tj mx (.int k a) (.int k' b)=some (.int k (if mx then(if a<b then b else a)else(if b<a then b else a))):=rfl
def Dp(i:Nat):DV→Option DV|.tup vs=>vs[i]?|_=>none
theorem Uf(i:Nat)(vs:List DV):Dp i (.tup vs)=vs[i]?:=rfl
def Jb:Option aA→Option (DV×aA)
 | some h=>some (.tup [],h)
 | none=>none
theorem Wh(h:aA):Jb (some h)=some (.tup [],h):=rfl
def z7(h:aA)(ety sz:Nat)(x:DV):Option (DV×aA):=if bE sz x then some (.ptr h.n sz 0 0,h.push (.arr ety sz [x] (some 1)))else none
theorem VG{h:aA}{ety sz:Nat}{x:DV}(hs:bE sz x=true):z7 h ety sz x=some (.ptr h.n sz 0 0,h.push (.arr ety sz [x] (some 1))):=if_pos hs
def AaC(h:aA):Option (List DV)→Option (DV×aA)
 | some cs=>some (.agg cs,h)
 | none=>none
theorem II(h:aA)(cs:List DV):AaC h (some cs)=some (.agg cs,h):=rfl
def Ji(h:aA)(ety sz len:Nat):Option (List DV)→Option (DV×aA)
 | some xs=>some (.sl h.n sz 0 len,h.push (.arr ety sz xs (some len)))
 | none=>none
theorem Nc(h:aA)(ety sz len:Nat)(xs:List DV):Ji h ety sz len (some xs)=some (.sl h.n sz 0 len,h.push (.arr ety sz xs (some len))):=rfl
section
variable (h:aA) (env:Env)
theorem RP(x:Opd):aK h env (.move x)=some (x.eval env,h):=rfl
theorem AC(c a b:Opd):aK h env (.pick c a b)=dZ h (MN (c.eval env) (a.eval env) (b.eval env)):=by simp only[aK];cases c.eval env<;>rfl
theorem LA(ety sz:Nat)(z:DV):aK h env (.alloc ety sz z)=some (.ptr h.n sz 0 0,h.push (.arr ety sz [z] (some 1))):=rfl
theorem YZ(ety sz:Nat)(x:Opd):aK h env (.box ety sz x)=z7 h ety sz (x.eval env):=rfl
theorem Wq(zero:List DV)(parts:List (Nat×Nat×Opd)):aK h env (.build zero parts)=AaC h (iT zero (parts.map fun p=>(p.1,p.2.1,p.2.2.eval env))):=by
 simp only[aK];cases iT zero (parts.map fun p=>(p.1,p.2.1,p.2.2.eval env))<;>rfl
theorem zP(ety sz:Nat)(z:DV)(len:Nat)(parts:List (Nat×Opd)):aK h env (.buildSlice ety sz z len parts)=Ji h ety sz len (eB sz (List.replicate len z) (parts.map fun p=>(p.1,p.2.eval env))):=by
 simp only[aK];cases eB sz (List.replicate len z) (parts.map fun p=>(p.1,p.2.eval env))<;>rfl
theorem AD(n:Option Nat)(a:Opd):aK h env (.load n a)=dZ h (lR h n (a.eval env)):=by simp only[aK];cases lR h n (a.eval env)<;>rfl
theorem Wm(n:Nat)(a x:Opd):aK h env (.store n a x)=Jb (kJ h n (a.eval env) (x.eval env)):=by simp only[aK];cases kJ h n (a.eval env) (x.eval env)<;>rfl
theorem Fv(x:Opd):aK h env (.nilCheck x)=dZ h (yQ (x.eval env)):=by simp only[aK];cases x.eval env<;>rfl
theorem Ws(op:BinOp)(x y:Opd):aK h env (.arith op x y)=dZ h (cO op (x.eval env) (y.eval env)):=by simp only[aK];cases cO op (x.eval env) (y.eval env)<;>rfl
theorem KX(neq:Bool)(x y:Opd):aK h env (.eqb neq x y)=dZ h (u6 neq (x.eval env) (y.eval env)):=by simp only[aK];cases x.eval env<;>cases y.eval env<;>rfl
theorem KY(neq:Bool)(ks:List Nat)(x y:Opd):aK h env (.eqa neq ks x y)=dZ h (Gi neq (jN (.agg ks) (x.eval env) (y.eval env))):=by simp only[aK];cases jN (.agg ks) (x.eval env) (y.eval env)<;>rfl
theorem KW(k:Nat)(neq:Bool)(x y:Opd):aK h env (.eqn k neq x y)=dZ h (Gi neq (uD k (x.eval env) (y.eval env))):=by simp only[aK];cases uD k (x.eval env) (y.eval env)<;>rfl
theorem VP(op:UnOp)(x:Opd):aK h env (.un op x)=dZ h (unD op (x.eval env)):=by simp only[aK];cases unD op (x.eval env)<;>rfl
theorem AF(k:IntKind)(x:Opd):aK h env (.conv k x)=dZ h (PN k (x.eval env)):=by simp only[aK];cases x.eval env<;>rfl
theorem Wr(x:Opd):aK h env (.asStr x)=dZ h (W4 (x.eval env)):=by simp only[aK];cases x.eval env<;>rfl
theorem Ch(off:Nat)(x:Opd):aK h env (.fieldAddr off x)=dZ h (vZ off (x.eval env)):=by simp only[aK];cases x.eval env<;>rfl
theorem Wp(off:Nat)(n:Option Nat)(x:Opd):aK h env (.field off n x)=dZ h (Ln off n (x.eval env)):=by
 simp only[aK]
 cases x.eval env with
 | agg cs=>simp only[Ln];cases dM n cs off<;>rfl
 | _=>rfl
theorem Cg(sz:Nat)(x i:Opd):aK h env (.indexAddr sz x i)=dZ h (bS sz (x.eval env) (i.eval env)):=by
 simp only[aK,bS]
 cases asI (i.eval env)with
 | none=>rfl
 | some n =>
  simp only
  cases x.eval env with
  | sl id eQ off len=>simp only;split<;>rfl
  | isl l eQ xs =>
   simp only
   split
   ·cases xs[n.toNat]?<;>rfl
   ·rfl
  | _=>rfl
theorem Fx(len esz:Nat)(x i:Opd):aK h env (.indexArr len esz x i)=dZ h (Fd len esz (x.eval env) (i.eval env)):=by
 simp only[aK,Fd]
 cases asI (i.eval env)with
 | none=>rfl
 | some n =>
  simp only
  split
  ·cases x.eval env<;>rfl
  ·rfl
theorem Wo(len esz:Nat)(n:Option Nat)(x i:Opd):aK h env (.index len esz n x i)=dZ h (R8 len esz n (x.eval env) (i.eval env)):=by
 simp only[aK,R8]
 cases asI (i.eval env)with
 | none=>rfl
 | some m =>
  cases x.eval env with
  | agg cs =>
   simp only
   split
   ·cases dM n cs (m.toNat*esz)<;>rfl
   ·rfl
  | _=>rfl
theorem Fw(x i:Opd):aK h env (.indexStr x i)=dZ h (rJ (x.eval env) (i.eval env)):=by
 simp only[aK,rJ]
 cases asI (i.eval env)with
 | none=>rfl
 | some m =>
  cases x.eval env with
  | str s =>
   simp only
   split
   ·cases s[m.toNat]?<;>rfl
   ·rfl
  | _=>rfl
theorem Fu(x:Opd)(lo hi:Option Opd):aK h env (.sliceStr x lo hi)=dZ h (pG (x.eval env) (lo.map (Opd.eval env)) (hi.map (Opd.eval env))):=by
 simp only[aK,pG,Mm]
 cases x.eval env with
 | str s =>
  simp only
  cases dQ (hi.map (Opd.eval env)) s.length s.length with
  | none=>rfl
  | some b=>simp only;cases dQ (lo.map (Opd.eval env)) 0 b<;>rfl
 | _=>rfl
theorem Je(sz:Nat)(x:Opd)(lo hi:Option Opd):aK h env (.sliceSl sz x lo hi)=dZ h (iI h sz (x.eval env) (lo.map (Opd.eval env)) (hi.map (Opd.eval env))):=by
 simp only[aK,iI,Mm]
 cases x.eval env with
 | nsl =>
  simp only
  cases dQ (hi.map (Opd.eval env)) 0 0 with
  | none=>rfl
  | some b=>simp only;cases dQ (lo.map (Opd.eval env)) 0 b<;>rfl
 | isl l eQ xs =>
  simp only
  split
  ·cases dQ (hi.map (Opd.eval env)) xs.length xs.length with
   | none=>rfl
   | some b=>simp only;cases dQ (lo.map (Opd.eval env)) 0 b<;>rfl
  ·rfl
 | sl id eQ off len =>
  simp only
  cases h.get id with
  | none=>rfl
  | some o =>
   cases o with
   | arr e s xs c =>
    simp only
    split
    ·cases dQ (hi.map (Opd.eval env)) len (xs.length-off)with
     | none=>rfl
     | some b=>simp only;cases dQ (lo.map (Opd.eval env)) 0 b<;>rfl
    ·rfl
   | _=>rfl
 | _=>rfl
theorem KV(k:Nat)(x:Opd):aK h env (.len k x)=dZ h (lenV h k (x.eval env)):=by
 simp only[aK,lenV]
 cases x.eval env with
 | map id =>
  simp only
  cases h.get id with
  | none=>rfl
  | some o=>cases o<;>simp only<;>first|rfl|(split<;>rfl)
 | _=>first|rfl|(simp only;split<;>rfl)
theorem Oj(ety sz bytes:Nat)(s x:Opd):aK h env (.append ety sz bytes s x)=Uv h ety sz bytes (s.eval env) (elems h sz (x.eval env)):=by
 simp only[aK];cases elems h sz (x.eval env)<;>rfl
theorem AE(sz:Nat)(d s:Opd):aK h env (.copy sz d s)=PJ h sz (d.eval env) (elems h sz (s.eval env)):=by
 simp only[aK];cases elems h sz (s.eval env)<;>rfl
theorem Oh(mx:Bool)(x y:Opd):aK h env (.minmax mx x y)=dZ h (Tj mx (x.eval env) (y.eval env)):=by
 simp only[aK];cases x.eval env<;>cases y.eval env<;>rfl
theorem Wn(f:FuncId)(cap:List Opd):aK h env (.makeFunc f cap)=some (.func f (cap.map (Opd.eval env)),h):=rfl
theorem L8:aK h env .makeMap=some (.map h.n,h.push (.mp [])):=rfl
theorem Jf(x:Opd)(i:Nat):aK h env (.extract x i)=dZ h (Dp i (x.eval env)):=by
 simp only[aK]
 cases x.eval env with
 | tup vs=>simp only[Dp];cases vs[i]?<;>rfl
 | _=>rfl
theorem Sa(t:TypeId)(x:Opd):aK h env (.makeIface t x)=some (.iface t (x.eval env),h):=rfl
end
def xU(h:aA):DV→Option (List (DV×DV))
 | .nmap=>some []
 | .map id=>match h.get id with|some (.mp es)=>some es|_=>none
 | _=>none
def yS(q:EqT)(z:DV)(ok:Bool)(k:DV):Option (List (DV×DV))→Option DV
 | some es=>if(jN q k k).isSome then
   match tH q k es with
   | some (some (_,v))=>some (if ok then .tup [v,.bool true]else v)
   | some none=>some (if ok then .tup [z,.bool false]else z)
   | none=>none
  else none
 | none=>none
theorem Oi(h:aA)(env:Env)(q:EqT)(z:DV)(ok:Bool)(m k:Opd):aK h env (.lookup q z ok m k)=dZ h (yS q z ok (k.eval env) (xU h (m.eval env))):=by
 have key:∀r:Option (List (DV×DV)),(match r with
   | some es=>if(jN q (k.eval env) (k.eval env)).isSome then
     match tH q (k.eval env) es with
     | some (some (_,v))=>some (if ok then DV.tup [v,.bool true]else v,h)
     | some none=>some (if ok then DV.tup [z,.bool false]else z,h)
     | none=>none
    else none
   | none=>none)=dZ h (yS q z ok (k.eval env) r):=by
  intro r
  cases r with
  | none=>rfl
  | some es =>
   simp only[yS]
   split
   ·cases tH q (k.eval env) es with
    | none=>rfl
    | some x=>cases x<;>rfl
   ·rfl
 simp only[aK]
 rw[←key]
 cases m.eval env with
 | map id=>simp only[xU];cases h.get id with
  | none=>rfl
  | some o=>cases o<;>rfl
 | _=>rfl
def Cb(h:aA)(q:EqT)(m k x:DV):Option aA :=
 match m with
 | .map id=>match h.get id with
  | some (.mp es) =>
   if h.lim≤id∧(jN q k k).isSome=true then
    match tH q k es with
    | some (some (i,_))=>some (h.set id (.mp (es.set i (k,x))))
    | some none=>some (h.set id (.mp (es++[(k,x)])))
    | none=>none
   else none
  | _=>none
 | _=>none
theorem Cf(h:aA)(env:Env)(q:EqT)(m k x:Opd):aK h env (.mapUpdate q m k x)=Jb (Cb h q (m.eval env) (k.eval env) (x.eval env)):=by
 simp only[aK,Cb]
 cases m.eval env with
 | map id =>
  simp only
  cases h.get id with
  | none=>rfl
  | some o =>
   cases o with
   | mp es =>
    simp only
    split
    ·cases tH q (k.eval env) es with
     | none=>rfl
     | some y=>cases y with
      | none=>rfl
      | some p=>rfl
    ·rfl
   | _=>rfl
 | _=>rfl
section
variable (c:Nat→List DV→aA→Option (DV×aA)) (h:aA) (env:Env)
end
theorem aX{n:Int}(h1:-9223372036854775808≤n)(h2:n≤9223372036854775807):IntKind.i64.wrap n=n:=by
 exact Go.IntWalk.i64_in n ⟨h1,h2⟩
end Go.Dm
namespace Go.Dm
def eL{α:Type}(t:Bool)(sz:Nat)(e:α→DV)(xs:List α):DV:=mkIsl t sz (xs.map e)
section eL
variable {α:Type} (t:Bool) (sz:Nat) (e:α→DV) (xs:List α)
theorem hY:eL t sz e []=.isl false 0 []:=rfl
theorem wB(x:α):eL t sz e (x::xs)=.isl t sz (e x::xs.map e):=rfl
theorem WK{xs:List α}(h:xs≠[]):eL t sz e xs=.isl t sz (xs.map e):=by
 cases xs with
 | nil=>exact absurd rfl h
 | cons x xs=>rfl
theorem TQ(h:aA):lenV h 1 (eL t sz e xs)=some (.int .i64 xs.length):=by cases xs<;>simp[hY,wB,lenV]
theorem Fs:bE 1 (eL t sz e xs)=true:=by cases xs<;>rfl
theorem Pk:aP 1 (eL t sz e xs)=[eL t sz e xs]:=by cases xs<;>rfl
theorem qG(h:aA):elems h sz (eL t sz e xs)=some (xs.map e):=by cases xs<;>simp[hY,wB,elems]
theorem Nr{xs:List α}(k:IntKind){i:Nat}{a:α}(ha:xs[i]?=some a):bS sz (eL t sz e xs) (.int k (i:Int))=some (.iptr t (aP sz (e a)) 0):=by
 have eG:xs≠[]:=by intro h0;subst h0;simp at ha
 rw[WK t sz e eG]
 simp[bS,asI,ha]
theorem Kp{xs:List α}(k:IntKind){i:Int}{a:α}(h0:0≤i)(ha:xs[i.toNat]?=some a):bS sz (eL t sz e xs) (.int k i)=some (.iptr t (aP sz (e a)) 0):=by
 obtain⟨n,rfl⟩:=Int.eq_ofNat_of_zero_le h0
 exact Nr t sz e k ha
end eL
def jU(k:Nat)(d:DV):Prop:=∀tag h n,k≤n→resolve tag h n d=some d
def Unl(k:Nat)(d:DV):Prop:=∀n,k≤n→bJ n d=true
theorem jU.mono{k m:Nat}{d:DV}(h:jU k d)(hk:k≤m):jU m d:=fun t hp n hn=>h t hp n (Nat.le_trans hk hn)
theorem Unl.mono{k m:Nat}{d:DV}(h:Unl k d)(hk:k≤m):Unl m d:=fun n hn=>h n (Nat.le_trans hk hn)
theorem cM{k n:Nat}(h:k+1≤n):∃ m,n=m+1∧k≤m:=⟨n-1,by omega,by omega⟩
theorem fA(k:IntKind)(n:Int):jU 1 (.int k n):=fun t h m hm=>by obtain⟨q,rfl,_⟩:=cM hm;rfl
theorem pP(b:Bool):jU 1 (.bool b):=fun t h m hm=>by obtain⟨q,rfl,_⟩:=cM hm;rfl
theorem Dk(s:List UInt8):jU 1 (.str s):=fun t h m hm=>by obtain⟨q,rfl,_⟩:=cM hm;rfl
theorem GR(l:Bool)(cs:List DV)(o:Nat):jU 1 (.iptr l cs o):=fun t h m hm=>by obtain⟨q,rfl,_⟩:=cM hm;rfl
theorem eM{α:Type}(t:Bool)(sz:Nat)(e:α→DV)(xs:List α):jU 1 (eL t sz e xs):=fun tg h m hm=>by
 obtain⟨q,rfl,_⟩:=cM hm
 cases xs<;>rfl
theorem pK{f:DV→Option DV}:∀{cs:List DV},(∀x∈cs,f x=some x)→cs.mapM f=some cs:=by
 intro cs
 induction cs with
 | nil=>intro _;rfl
 | cons x r ih =>
  intro h
  rw[List.mapM_cons,h x (List.mem_cons_self ..),ih (fun y hy=>h y (List.mem_cons_of_mem _ hy))];rfl
theorem xQ{k:Nat}{cs:List DV}(h:∀x∈cs,jU k x):jU (k+1) (.agg cs):=fun t hp m hm=>by
 obtain⟨q,rfl,hq⟩:=cM hm
 have:cs.mapM (resolve t hp q)=some cs:=pK fun x hx=>h x hx t hp q hq
 simp only[resolve,this]
theorem GS{k:Nat}{f:Nat}{cs:List DV}(h:∀x∈cs,jU k x):jU (k+1) (.func f cs):=fun t hp m hm=>by
 obtain⟨q,rfl,hq⟩:=cM hm
 have:cs.mapM (resolve t hp q)=some cs:=pK fun x hx=>h x hx t hp q hq
 simp only[resolve,this]
theorem lF(k:IntKind)(n:Int):Unl 1 (.int k n):=fun m hm=>by obtain⟨q,rfl,_⟩:=cM hm;rfl
theorem wV(b:Bool):Unl 1 (.bool b):=fun m hm=>by obtain⟨q,rfl,_⟩:=cM hm;rfl
theorem vG(s:List UInt8):Unl 1 (.str s):=fun m hm=>by obtain⟨q,rfl,_⟩:=cM hm;rfl
theorem Pv{k:Nat}{cs:List DV}(h:∀x∈cs,Unl k x):Unl (k+1) (.agg cs):=fun m hm=>by
 obtain⟨q,rfl,hq⟩:=cM hm
 simp only[bJ,List.all_eq_true]
 exact fun x hx=>h x hx q hq
theorem eV{α:Type}{k sz:Nat}{e:α→DV}{xs:List α}(h:∀x∈xs,Unl k (e x)):Unl (k+1) (eL false sz e xs):=fun m hm=>by
 obtain⟨q,rfl,hq⟩:=cM hm
 cases xs with
 | nil=>rfl
 | cons x r =>
  simp only[wB,bJ,Bool.not_false,Bool.true_and,List.all_eq_true]
  intro y hy
  rw[←List.map_cons (f:=e)]at hy
  obtain⟨z,hz,rfl⟩:=List.mem_map.1 hy
  exact h z hz q hq
class Plain {α:Type} (e:α→DV):Prop where
 flat:∀x,jU 20 (e x)
 unl:∀x,Unl 20 (e x)
inductive Own(lo:Nat)(h:aA)(v:DV)(ety sz:Nat)(xs:List DV):Prop where
 | nil (hv:v=.nsl) (hx:xs=[])
 | arr (id:Nat) (hv:v=.sl id sz 0 xs.length) (hg:h.get id=some (.arr ety sz xs none)) (aM:h.lim≤id) (dV:lo≤id)
structure Ext(lo:Nat)(h h':aA):Prop where
 le:lo≤h'.n
 lim:h'.lim=h.lim
 get:∀id,id<lo→h'.get id=h.get id
 wf:WF h'
theorem Ext.refl{lo:Nat}{h:aA}(dI:lo≤h.n)(w:WF h):Ext lo h h:=⟨dI,rfl,fun _ _=>rfl,w⟩
theorem Ext.trans{lo:Nat}{a b c:aA}(x:Ext lo a b)(y:Ext lo b c):Ext lo a c:=⟨y.le,y.lim.trans x.lim,fun id fS=>(y.get id fS).trans (x.get id fS),y.wf⟩
theorem Ext.push{lo:Nat}{h h':aA}{o:DO}(x:Ext lo h h'):Ext lo h (h'.push o) :=
 ⟨Nat.le_succ_of_le x.le,x.lim,fun id fS=>by rw[cN,if_neg (by have:=x.le;omega)];exact x.get id fS,x.wf.push⟩
theorem Ext.set{lo:Nat}{h h':aA}{id:Nat}{o:DO}(x:Ext lo h h')(fS:lo≤id)(bD:id<h'.n):Ext lo h (h'.set id o) :=
 ⟨x.le,x.lim,fun k hk=>by rw[cA x.wf bD,if_neg (by omega)];exact x.get k hk,x.wf.set⟩
theorem Own.push{lo:Nat}{h:aA}{o:DO}{v:DV}{ety sz:Nat}{xs:List DV}(w:Own lo h v ety sz xs):Own lo (h.push o) v ety sz xs:=by
 cases w with
 | nil hv hx=>exact .nil hv hx
 | arr id hv hg aM dV =>
  refine .arr id hv ?_ aM dV
  rw[cN,if_neg (by have:=bB hg;omega)];exact hg
theorem Own.start(lo:Nat)(h:aA)(ety sz:Nat):Own lo h .nsl ety sz []:=.nil rfl rfl
theorem Own.append{lo:Nat}{h:aA}{v:DV}{ety sz bytes:Nat}{xs ys:List DV}{A:Option (DV×aA)}(w:Own lo h v ety sz xs)(wf:WF h)(dV:lo≤h.n)(aM:h.lim≤h.n)(hA:aY h ety sz bytes v ys=A)
  (hb:(xs.length+ys.length)*bytes≤140737488355328) (Bx:1≤bytes):∃ v' h',A=some (v',h')∧Own lo h' v' ety sz (xs++ys)∧Ext lo h h':=by
 have hm:xs.length+ys.length≤140737488355328:=Nat.le_trans (Nat.le_mul_of_pos_right _ Bx) hb
 by_cases hy:ys=[]
 ·subst hy
  refine⟨v,h,?_,by simpa using w,.refl dV wf⟩
  rw[←hA]
  cases w with
  | nil hv hx=>subst hv;rfl
  | arr id hv hg _ _=>subst hv;rfl
 ·have Tq:ys.isEmpty=false:=by cases ys<;>simp_all
  have i9:0<ys.length:=List.length_pos_iff.2 hy
  cases w with
  | nil hv hx =>
   subst hv;subst hx
   simp only[List.length_nil,Nat.zero_add]at hb hm
   refine⟨.sl h.n sz 0 ys.length,h.push (.arr ety sz ys none),?_,.arr h.n rfl cR (by exact aM) dV,(Ext.refl dV wf).push⟩
   rw[←hA]
   simp only[aY,Tq]
   rw[if_neg (by simp),if_pos ⟨hb,by omega⟩]
  | arr id hv hg hl hi =>
   subst hv
   have bD:=bB hg
   have e2:(h.set id DO.dead).n=h.n:=rfl
   refine⟨.sl h.n sz 0 (xs.length+ys.length),(h.set id .dead).push (.arr ety sz (xs++ys) none),?_,.arr h.n (by simp) ?_ (by exact aM) dV,(((Ext.refl dV wf).set hi bD).push)⟩
   ·rw[←hA]
    simp only[aY,Tq,hg]
    simp only[Bool.false_eq_true,if_false,true_and,Nat.zero_add,Nat.le_refl]
    rw[if_pos ⟨hb,by omega⟩,if_neg (by omega),if_pos hl]
    simp
   ·exact cR
end Go.Dm
namespace Go.Dm
section Own
variable {lo:Nat} {h:aA} {v:DV} {ety sz:Nat} {xs:List DV}
theorem Own.lenV(w:Own lo h v ety sz xs):lenV h 1 v=some (.int .i64 xs.length):=by
 cases w with
 | nil hv hx=>subst hv;subst hx;rfl
 | arr id hv hg hl hi=>subst hv;rfl
theorem Own.elems(w:Own lo h v ety sz xs):elems h sz v=some xs:=by
 cases w with
 | nil hv hx=>subst hv;subst hx;rfl
 | arr id hv hg hl hi=>subst hv;simp[Dm.elems,hg]
theorem Own.ext{lo:Nat}{h h':aA}(w:Own lo h v ety sz xs)(x:Ext h.n h h'):Own lo h' v ety sz xs:=by
 cases w with
 | nil hv hx=>exact .nil hv hx
 | arr id hv hg hl hi=>exact .arr id hv ((x.get id (bB hg)).trans hg) (by rw[x.lim];exact hl) hi
theorem Own.resolve{α:Type}{e:α→DV}{ys:List α}{k n:Nat}(tag:Bool)(w:Own lo h v ety sz (ys.map e))(hf:∀y∈ys,jU k (e y))(hn:k+1≤n):resolve tag h n v=some (eL tag sz e ys):=by
 obtain⟨m,rfl,hm⟩:=cM hn
 cases w with
 | nil hv hx =>
  subst hv
  cases ys with
  | nil=>rfl
  | cons y r=>simp at hx
 | arr id hv hg hl hi =>
  subst hv
  have Eb:(ys.map e).mapM (Dm.resolve tag h m)=some (ys.map e):=pK fun x hx=>by
   obtain⟨y,hy,rfl⟩:=List.mem_map.1 hx
   exact hf y hy tag h m hm
  simp only[Dm.resolve,hg,true_and,Nat.zero_add,Nat.le_refl,if_true,List.drop_zero,List.take_length,Eb]
  rfl
end Own
theorem Xx{v d:DV}{h:aA}{k:Nat}(hr:resolve false h cW v=some d)(hu:Unl k d)(hk:k≤200):dC (some (v,h))=some d:=by
 simp only[dC,hr,hu cW hk,if_true]
theorem Xm{tag:Bool}{h:aA}{n:Nat}{vs ds:List DV}(hr:vs.mapM (resolve tag h n)=some ds):resolve tag h (n+1) (.tup vs)=some (.tup ds):=by
 simp only[resolve,hr]
theorem F4{n:Nat}{vs:List DV}(hr:∀d∈vs,bJ n d=true):bJ (n+1) (.tup vs)=true:=by
 simp only[bJ,List.all_eq_true];exact hr
theorem FH{h:aA}{vs ds:List DV}{k:Nat}(hr:vs.mapM (resolve false h 199)=some ds)(hu:∀d∈ds,Unl k d)(hk:k≤199):dC (some (.tup vs,h))=some (.tup ds):=by
 have e:resolve false h cW (.tup vs)=some (.tup ds):=Xm hr
 have u:bJ cW (.tup ds)=true:=F4 fun d hd=>hu d hd 199 hk
 simp only[dC,e,u,if_true]
theorem Own.out{lo:Nat}{h:aA}{v:DV}{ety sz:Nat}{α:Type}{e:α→DV}{ys:List α}{k:Nat}(w:Own lo h v ety sz (ys.map e))(hf:∀y∈ys,jU k (e y))(hu:∀y∈ys,Unl k (e y))(hk:k≤198) :
  dC (some (v,h))=some (eL false sz e ys) :=
 Xx (k:=k+1) (w.resolve false hf (by show k+1≤200;omega)) (eV hu) (by omega)
theorem BT{D:dA}{f:Nat}{df:aQ}(hh:D.hook f=none)(hf:D.fn f=some df)(args:List DV)(h:aA):fc D f args h=dW (ev D) df args h:=by
 rw[Zr,hh,hf]
theorem HH{α:Type}{xs:List α}{i:Nat}{a:α}{r:List α}(h:xs.drop i=a::r):i<xs.length∧xs[i]?=some a∧xs.drop (i+1)=r:=by
 have h1:i<xs.length:=by
  by_cases bD:i<xs.length
  ·exact bD
  ·rw[List.drop_eq_nil_of_le (by omega)]at h;cases h
 rw[List.drop_eq_getElem_cons h1]at h
 injection h with h2 h3
 exact⟨h1,by rw[List.getElem?_eq_getElem h1,h2],h3⟩
theorem cB{α:Type}{xs:List α}{i:Nat}{a:α}{r:List α}(h:xs.drop i=a::r):∃ hi:i<xs.length,xs[i]=a∧xs.drop (i+1)=r:=by
 obtain⟨h1,h2,h3⟩:=HH h
 exact⟨h1,by rw[List.getElem?_eq_getElem h1]at h2;injection h2,h3⟩
theorem bR{α:Type}{xs:List α}{i:Nat}(h:xs.drop i=[]):xs.length≤i:=List.drop_eq_nil_iff.1 h
structure ID where
 aS:Int
 seq:Int
 deriving DecidableEq,Inhabited
structure Val where
 isText:Bool
 n:Int
 text:List UInt8
 deriving DecidableEq,Inhabited
structure Att where
 name:List UInt8
 val:Val
 deriving DecidableEq,Inhabited
structure fB where
 name:List UInt8
 kind:Int
 lo:Int
 hi:Int
 text:List UInt8
 deriving DecidableEq,Inhabited
abbrev bI:=List fB
structure bC where
 id:ID
 pred:bI
 bO:Int
 deriving DecidableEq,Inhabited
structure aV where
 tree:ID
 sub:ID
 pred:bI
 bL:Int
 up:Bool
 deriving DecidableEq,Inhabited
structure fV where
 id:ID
 pred:bI
 deriving DecidableEq,Inhabited
structure aF where
 me:Int
 aL:List Int
 aR:List bC
 seen:List ID
 entries:List aV
 bU:List fV
 deriving DecidableEq,Inhabited
structure Msg where
 kind:Int
 tree:ID
 id:ID
 pred:bI
 gI:List Att
 deriving DecidableEq,Inhabited
structure Out where
 to:Int
 m:Msg
 deriving DecidableEq,Inhabited
def bQ(n:Int):DV:=.int .i64 n
def Bk(s:List UInt8):DV:=.str s
def uU(v:Val):DV:=.agg [.bool v.isText,.int .i64 v.n,.str v.text]
def gK(a:Att):DV:=.agg [.str a.name,.bool a.val.isText,.int .i64 a.val.n,.str a.val.text]
def aO(c:fB):DV:=.agg [.str c.name,.int .i64 c.kind,.int .i64 c.lo,.int .i64 c.hi,.str c.text]
def bF(p:bI):DV:=eL false 5 aO p
def eID(x:ID):DV:=.agg [.int .i64 x.aS,.int .i64 x.seq]
def aG(a:bC):DV:=.agg [.int .i64 a.id.aS,.int .i64 a.id.seq,bF a.pred,.int .i64 a.bO]
def aD(e:aV):DV:=.agg [.int .i64 e.tree.aS,.int .i64 e.tree.seq,.int .i64 e.sub.aS,.int .i64 e.sub.seq,bF e.pred,.int .i64 e.bL,.bool e.up]
def cT(o:fV):DV:=.agg [.int .i64 o.id.aS,.int .i64 o.id.seq,bF o.pred]
structure dG where
 aL:Bool
 aR:Bool
 seen:Bool
 entries:Bool
 bU:Bool
def dG.none:dG:=⟨false,false,false,false,false⟩
def aH(t:dG)(b:aF):DV:=.agg [.int .i64 b.me,eL t.aL 1 bQ b.aL,eL t.aR 4 aG b.aR,eL t.seen 2 eID b.seen,eL t.entries 7 aD b.entries,eL t.bU 3 cT b.bU]
def sQ(m:Msg):DV:=.agg [.int .i64 m.kind,.int .i64 m.tree.aS,.int .i64 m.tree.seq,.int .i64 m.id.aS,.int .i64 m.id.seq,bF m.pred,eL false 4 gK m.gI]
def fM(o:Out):DV:=.agg [.int .i64 o.to,.int .i64 o.m.kind,.int .i64 o.m.tree.aS,.int .i64 o.m.tree.seq,.int .i64 o.m.id.aS,.int .i64 o.m.id.seq,bF o.m.pred,eL false 4 gK o.m.gI]
theorem FF:Plain bQ:=⟨fun _=>(fA _ _).mono (by decide),fun _=>(lF _ _).mono (by decide)⟩
theorem Ao:Plain aO:=⟨fun c=>(xQ (k:=1) (by
  intro x hx;simp only[List.mem_cons,List.not_mem_nil,or_false]at hx
  rcases hx with rfl|rfl|rfl|rfl|rfl<;>first|exact fA _ _|exact Dk _)).mono (by decide),fun c=>(Pv (k:=1) (by
  intro x hx;simp only[List.mem_cons,List.not_mem_nil,or_false]at hx
  rcases hx with rfl|rfl|rfl|rfl|rfl<;>first|exact lF _ _|exact vG _)).mono (by decide)⟩
theorem tT(p:bI):Unl 21 (bF p):=eV fun x _=>Ao.unl x
theorem Fh(p:bI):jU 1 (bF p):=eM false 5 aO p
end Go.Dm
namespace Go.Dm
theorem Xy(D:dA)(g:Opd)(args:List Opd)(env:Env)(h:aA):cG (fc D) (.call g args) env h=BX D (args.map (Opd.eval env)) h (g.eval env):=P5 D h g args env
section
variable (c:Nat→List DV→aA→Option (DV×aA)) (h:aA) (env:Env)
theorem TA(x:Opd):cG c (.move x) env h=some (x.eval env,h):=rfl
theorem SZ(x a b:Opd):cG c (.pick x a b) env h=dZ h (MN (x.eval env) (a.eval env) (b.eval env)):=AC ..
theorem MV(ety sz:Nat)(z:DV):cG c (.alloc ety sz z) env h=some (.ptr h.n sz 0 0,h.push (.arr ety sz [z] (some 1))):=rfl
theorem ZV(ety sz:Nat)(x:Opd):cG c (.box ety sz x) env h=z7 h ety sz (x.eval env):=rfl
theorem MS(zero:List DV)(parts:List (Nat×Nat×Opd)):cG c (.build zero parts) env h=AaC h (iT zero (parts.map fun p=>(p.1,p.2.1,p.2.2.eval env))):=Wq ..
theorem Nm(ety sz:Nat)(z:DV)(len:Nat)(parts:List (Nat×Opd)):cG c (.buildSlice ety sz z len parts) env h=Ji h ety sz len (eB sz (List.replicate len z) (parts.map fun p=>(p.1,p.2.eval env))):=zP ..
theorem TB(n:Option Nat)(a:Opd):cG c (.load n a) env h=dZ h (lR h n (a.eval env)):=AD ..
theorem MP(n:Nat)(a x:Opd):cG c (.store n a x) env h=Jb (kJ h n (a.eval env) (x.eval env)):=Wm ..
theorem Ya(x:Opd):cG c (.nilCheck x) env h=dZ h (yQ (x.eval env)):=Fv ..
theorem MU(op:BinOp)(x y:Opd):cG c (.arith op x y) env h=dZ h (cO op (x.eval env) (y.eval env)):=Ws ..
theorem ZS(neq:Bool)(x y:Opd):cG c (.eqb neq x y) env h=dZ h (u6 neq (x.eval env) (y.eval env)):=KX ..
theorem ZT(neq:Bool)(ks:List Nat)(x y:Opd):cG c (.eqa neq ks x y) env h=dZ h (Gi neq (jN (.agg ks) (x.eval env) (y.eval env))):=KY ..
theorem ZR(k:Nat)(neq:Bool)(x y:Opd):cG c (.eqn k neq x y) env h=dZ h (Gi neq (uD k (x.eval env) (y.eval env))):=KW ..
theorem AeC(op:UnOp)(x:Opd):cG c (.un op x) env h=dZ h (unD op (x.eval env)):=VP ..
theorem TE(k:IntKind)(x:Opd):cG c (.conv k x) env h=dZ h (PN k (x.eval env)):=AF ..
theorem MT(x:Opd):cG c (.asStr x) env h=dZ h (W4 (x.eval env)):=Wr ..
theorem Td(off:Nat)(x:Opd):cG c (.fieldAddr off x) env h=dZ h (vZ off (x.eval env)):=Ch ..
theorem MR(off:Nat)(n:Option Nat)(x:Opd):cG c (.field off n x) env h=dZ h (Ln off n (x.eval env)):=Wp ..
theorem Tb(sz:Nat)(x i:Opd):cG c (.indexAddr sz x i) env h=dZ h (bS sz (x.eval env) (i.eval env)):=Cg ..
theorem Yd(len esz:Nat)(x i:Opd):cG c (.indexArr len esz x i) env h=dZ h (Fd len esz (x.eval env) (i.eval env)):=Fx ..
theorem MQ(len esz:Nat)(n:Option Nat)(x i:Opd):cG c (.index len esz n x i) env h=dZ h (R8 len esz n (x.eval env) (i.eval env)):=Wo ..
theorem Yc(x i:Opd):cG c (.indexStr x i) env h=dZ h (rJ (x.eval env) (i.eval env)):=Fw ..
theorem Xz(x:Opd)(lo hi:Option Opd):cG c (.sliceStr x lo hi) env h=dZ h (pG (x.eval env) (lo.map (Opd.eval env)) (hi.map (Opd.eval env))):=Fu ..
theorem P6(sz:Nat)(x:Opd)(lo hi:Option Opd):cG c (.sliceSl sz x lo hi) env h=dZ h (iI h sz (x.eval env) (lo.map (Opd.eval env)) (hi.map (Opd.eval env))):=Je ..
theorem ZQ(k:Nat)(x:Opd):cG c (.len k x) env h=dZ h (lenV h k (x.eval env)):=KV ..
theorem FM(ety sz bytes:Nat)(s x:Opd):cG c (.append ety sz bytes s x) env h=Uv h ety sz bytes (s.eval env) (elems h sz (x.eval env)):=Oj ..
theorem TD(sz:Nat)(d s:Opd):cG c (.copy sz d s) env h=PJ h sz (d.eval env) (elems h sz (s.eval env)):=AE ..
theorem FK(mx:Bool)(x y:Opd):cG c (.minmax mx x y) env h=dZ h (Tj mx (x.eval env) (y.eval env)):=Oh ..
theorem Yb(f:FuncId)(cap:List Opd):cG c (.makeFunc f cap) env h=some (.func f (cap.map (Opd.eval env)),h):=rfl
theorem P7:cG c .makeMap env h=some (.map h.n,h.push (.mp [])):=rfl
theorem P8(x:Opd)(i:Nat):cG c (.extract x i) env h=dZ h (Dp i (x.eval env)):=Jf ..
theorem Ta(t:TypeId)(x:Opd):cG c (.makeIface t x) env h=some (.iface t (x.eval env),h):=rfl
theorem FL(q:EqT)(z:DV)(ok:Bool)(m k:Opd):cG c (.lookup q z ok m k) env h=dZ h (yS q z ok (k.eval env) (xU h (m.eval env))):=Oi ..
theorem Sz(q:EqT)(m k x:Opd):cG c (.mapUpdate q m k x) env h=Jb (Cb h q (m.eval env) (k.eval env) (x.eval env)):=Cf ..
end
theorem QU(f:cY)(d i:Nat)(v:DV):upd f d v i=if i=d then v else f i:=rfl
theorem PW(args:List DV)(i:Nat):PX args i=args.getD i cH:=rfl
theorem FA(f:cY)(d:Nat)(v:DV):tZ f (some d) v=upd f d v:=rfl
theorem FB(f:cY)(v:DV):tZ f none v=f:=rfl
theorem AdI(N:Nat)(f:cY)(i:Nat):rd N f i=if i<N then f i else .unk:=rfl
theorem Q8(h:aA)(n:Option Nat)(l:Bool)(cs:List DV)(off:Nat):lR h n (.iptr l cs off)=dM n cs off:=rfl
theorem AeB(cs:List DV)(off:Nat):dM none cs off=cs[off]?:=rfl
theorem AeA(n:Nat)(cs:List DV)(off:Nat):dM (some n) cs off=if off+n≤cs.length then some (.agg ((cs.drop off).take n))else none:=rfl
theorem Ry(n:Nat)(cs:List DV):bE n (.agg cs)=(cs.length == n):=rfl
theorem Rx(n:Nat)(k:IntKind)(m:Int):bE n (.int k m)=(n == 1):=rfl
theorem Na(n:Nat)(b:Bool):bE n (.bool b)=(n == 1):=rfl
theorem Rs(n:Nat)(s:List UInt8):bE n (.str s)=(n == 1):=rfl
theorem Rt(n a b c d:Nat):bE n (.ptr a b c d)=(n == 1):=rfl
theorem Wk(n a b c d:Nat):bE n (.sl a b c d)=(n == 1):=rfl
theorem Ru(n:Nat):bE n .nsl=(n == 1):=rfl
theorem Rw(n:Nat)(t:Bool)(s:Nat)(xs:List DV):bE n (.isl t s xs)=(n == 1):=rfl
theorem Mz(n:Nat)(f:Nat)(cs:List DV):bE n (.func f cs)=(n == 1):=rfl
theorem Rv(n:Nat)(i:Nat):bE n (.map i)=(n == 1):=rfl
theorem Jc(n:Nat)(t:Nat)(d:DV):bE n (.iface t d)=(n == 1):=rfl
theorem My(n:Nat):bE n .nili=(n == 1):=rfl
theorem Mx(n:Nat):bE n .nilp=(n == 1):=rfl
theorem Mw(p:bI):bE 1 (bF p)=true:=Fs ..
theorem JO(sz n:Nat)(e x:DV)(h:n=sz):turn sz 0 n e x=x:=by simp[turn,h]
theorem C8(a b:Int):cO .add (.int .i64 a) (.int .i64 b)=some (.int .i64 (IntKind.i64.wrap (a+b))):=by simp[cO]
theorem C6(a b:Int):cO .sub (.int .i64 a) (.int .i64 b)=some (.int .i64 (IntKind.i64.wrap (a-b))):=by simp[cO]
theorem C7(a b:Int):cO .mul (.int .i64 a) (.int .i64 b)=some (.int .i64 (IntKind.i64.wrap (a*b))):=by simp[cO]
theorem IC(k:IntKind)(a b:Int):cO .eql (.int k a) (.int k b)=some (.bool (a == b)):=by simp[cO]
theorem HX(k:IntKind)(a b:Int):cO .neq (.int k a) (.int k b)=some (.bool (a != b)):=by simp[cO]
theorem HY(k:IntKind)(a b:Int):cO .lss (.int k a) (.int k b)=some (.bool (decide (a<b))):=by simp[cO]
theorem HZ(k:IntKind)(a b:Int):cO .leq (.int k a) (.int k b)=some (.bool (decide (a≤b))):=by simp[cO]
theorem IA(k:IntKind)(a b:Int):cO .gtr (.int k a) (.int k b)=some (.bool (decide (b<a))):=by simp[cO]
theorem IB(k:IntKind)(a b:Int):cO .geq (.int k a) (.int k b)=some (.bool (decide (b≤a))):=by simp[cO]
theorem HW(a b:List UInt8):cO .eql (.str a) (.str b)=some (.bool (a == b)):=rfl
theorem HQ(a b:List UInt8):cO .neq (.str a) (.str b)=some (.bool (!(a == b))):=rfl
theorem HR(a b:List UInt8):cO .lss (.str a) (.str b)=some (.bool (Go.Op.bytesLess a b)):=rfl
theorem HT(a b:List UInt8):cO .leq (.str a) (.str b)=some (.bool (Go.Op.bytesLess a b || a == b)):=rfl
theorem HU(a b:List UInt8):cO .gtr (.str a) (.str b)=some (.bool (!(Go.Op.bytesLess a b || a == b))):=rfl
theorem HV(a b:List UInt8):cO .geq (.str a) (.str b)=some (.bool (!Go.Op.bytesLess a b)):=rfl
theorem WR(b:Bool):unD .not (.bool b)=some (.bool (!b)):=rfl
theorem WS(k:IntKind)(n:Int):unD .neg (.int k n)=some (.int k (k.wrap (0-n))):=rfl
theorem OW(ks:List Nat)(xs ys:List DV):jN (.agg ks) (.agg xs) (.agg ys)=cX ks xs ys:=rfl
theorem uT(k:Nat)(x y:DV):jN (.prim k) x y=iU k x y:=rfl
theorem C0:cX [] [] []=some true:=rfl
theorem C1(ks:List Nat)(a b:Int)(k:IntKind)(xs ys:List DV):cX (1::ks) (.int k a::xs) (.int k b::ys)=(cX ks xs ys).map ((a == b) && ·):=by
 simp only[cX,iU,and_self,if_true];cases cX ks xs ys<;>rfl
theorem B9(ks:List Nat)(a b:List UInt8)(xs ys:List DV):cX (2::ks) (.str a::xs) (.str b::ys)=(cX ks xs ys).map ((a == b) && ·):=by
 simp only[cX,iU,if_true];cases cX ks xs ys<;>rfl
theorem Uo(ks:List Nat)(a b:Bool)(xs ys:List DV):cX (0::ks) (.bool a::xs) (.bool b::ys)=(cX ks xs ys).map ((a == b) && ·):=by
 simp only[cX,iU,if_true];cases cX ks xs ys<;>rfl
theorem P0(k:IntKind)(a b:Int):iU 1 (.int k a) (.int k b)=some (a == b):=by simp[iU]
theorem rS(a b:List UInt8):iU 2 (.str a) (.str b)=some (a == b):=by simp[iU]
theorem Xt(a b:Bool):iU 0 (.bool a) (.bool b)=some (a == b):=by simp[iU]
theorem OS(cs:List DV):iT cs []=some cs:=rfl
theorem GV(cs:List DV)(off n:Nat)(v:DV)(r:List (Nat×Nat×DV))(hs:bE n v=true)(ho:off+n≤cs.length):iT cs ((off,n,v)::r)=iT (cs.take off++aP n v++cs.drop (off+n)) r:=by
 simp[iT,hs,ho]
theorem GW(sz:Nat)(xs:List DV):eB sz xs []=some xs:=rfl
theorem T9(sz:Nat)(xs:List DV)(i:Nat)(v:DV)(r:List (Nat×DV))(hs:bE sz v=true)(hi:i<xs.length):eB sz xs ((i,v)::r)=eB sz (xs.set i v) r:=by
 simp[eB,hs,hi]
theorem A5(sz:Nat)(cs:List DV):aP sz (.agg cs)=cs:=rfl
theorem U8(sz:Nat)(k:IntKind)(n:Int):aP sz (.int k n)=[.int k n]:=rfl
theorem Zz(sz:Nat)(n:Bool):aP sz (.bool n)=[.bool n]:=rfl
theorem U3(sz:Nat)(n:List UInt8):aP sz (.str n)=[.str n]:=rfl
theorem U5(sz:Nat):aP sz .nsl=[.nsl]:=rfl
theorem HD(sz a b c d:Nat):aP sz (.sl a b c d)=[.sl a b c d]:=rfl
theorem U4(sz a b c d:Nat):aP sz (.ptr a b c d)=[.ptr a b c d]:=rfl
theorem U7(sz:Nat)(t:Bool)(s:Nat)(xs:List DV):aP sz (.isl t s xs)=[.isl t s xs]:=rfl
theorem Zy(sz:Nat)(f:Nat)(cs:List DV):aP sz (.func f cs)=[.func f cs]:=rfl
theorem U6(sz:Nat)(i:Nat):aP sz (.map i)=[.map i]:=rfl
theorem Ui(sz t:Nat)(d:DV):aP sz (.iface t d)=[.iface t d]:=rfl
theorem Zx(sz:Nat):aP sz .nili=[.nili]:=rfl
theorem Zw(sz:Nat):aP sz .nilp=[.nilp]:=rfl
theorem Zv(p:bI):aP 1 (bF p)=[bF p]:=Pk ..
theorem HB(h:aA)(sz:Nat):elems h sz .nsl=some []:=rfl
def NR(n:Option Nat)(sz off:Nat):Option DV→Option DV|some e=>dM n (aP sz e) off|none=>none
theorem R0(n:Option Nat)(sz off:Nat)(e:DV):NR n sz off (some e)=dM n (aP sz e) off:=rfl
def NQ(n:Option Nat)(sz idx off:Nat):Option DO→Option DV
 | some (.arr _ eQ xs _)=>if sz=eQ then NR n sz off xs[idx]? else none
 | _=>none
theorem Q9(n:Option Nat)(sz idx off ety eQ:Nat)(xs:List DV)(cap:Option Nat):NQ n sz idx off (some (.arr ety eQ xs cap))=if sz=eQ then NR n sz off xs[idx]? else none:=rfl
theorem NP(h:aA)(n:Option Nat)(id sz idx off:Nat):lR h n (.ptr id sz idx off)=NQ n sz idx off (h.get id):=by
 simp only[lR,NQ]
 cases h.get id with
 | none=>rfl
 | some o=>cases o with
  | arr e s xs c =>
   simp only
   split
   ·cases xs[idx]?<;>rfl
   ·rfl
  | _=>rfl
def L6(h:aA)(n id sz idx off ety:Nat)(xs:List DV)(cap:Option Nat)(x:DV):Option DV→Option aA
 | some e=>if(aP sz e).length=sz then some (h.set id (.arr ety sz (xs.set idx (turn sz off n e x)) cap))else none
 | none=>none
theorem Wj(h:aA)(n id sz idx off ety:Nat)(xs:List DV)(cap:Option Nat)(x e:DV):L6 h n id sz idx off ety xs cap x (some e)=if(aP sz e).length=sz then some (h.set id (.arr ety sz (xs.set idx (turn sz off n e x)) cap))else none:=rfl
def L5(h:aA)(n id sz idx off:Nat)(x:DV):Option DO→Option aA
 | some (.arr ety eQ xs cap)=>if sz=eQ∧h.lim≤id∧bE n x=true∧off+n≤sz then L6 h n id sz idx off ety xs cap x xs[idx]? else none
 | _=>none
theorem Wi(h:aA)(n id sz idx off:Nat)(x:DV)(ety eQ:Nat)(xs:List DV)(cap:Option Nat):L5 h n id sz idx off x (some (.arr ety eQ xs cap))=if sz=eQ∧h.lim≤id∧bE n x=true∧off+n≤sz then L6 h n id sz idx off ety xs cap x xs[idx]? else none:=rfl
theorem DZ(h:aA)(n id sz idx off:Nat)(x:DV):kJ h n (.ptr id sz idx off) x=L5 h n id sz idx off x (h.get id):=by
 simp only[kJ,L5]
 cases h.get id with
 | none=>rfl
 | some o=>cases o with
  | arr e s xs c =>
   simp only
   split
   ·cases xs[idx]?<;>rfl
   ·rfl
  | _=>rfl
def Uh(sz eQ off len:Nat):Option DO→Option (List DV)
 | some (.arr _ nT xs _)=>if sz=eQ∧sz=nT∧off+len≤xs.length then some ((xs.drop off).take len)else none
 | _=>none
theorem xX(sz eQ off len ety nT:Nat)(xs:List DV)(cap:Option Nat):Uh sz eQ off len (some (.arr ety nT xs cap))=if sz=eQ∧sz=nT∧off+len≤xs.length then some ((xs.drop off).take len)else none:=rfl
theorem OZ(h:aA)(sz id eQ off len:Nat):elems h sz (.sl id eQ off len)=Uh sz eQ off len (h.get id):=by
 simp only[elems,Uh]
 cases h.get id with
 | none=>rfl
 | some o=>cases o<;>rfl
def Em(sz id off:Nat)(lo:Option DV):Option Nat→Option DV
 | some b=>match dQ lo 0 b with
  | some a=>some (.sl id sz (off+a) (b-a))
  | none=>none
 | none=>none
def Jj(sz eQ id off len:Nat)(lo hi:Option DV):Option DO→Option DV
 | some (.arr _ nT xs _)=>if sz=eQ∧sz=nT∧off+len≤xs.length then Em sz id off lo (dQ hi len (xs.length-off))else none
 | _=>none
theorem wZ(sz eQ id off len:Nat)(lo hi:Option DV)(ety nT:Nat)(xs:List DV)(cap:Option Nat):Jj sz eQ id off len lo hi (some (.arr ety nT xs cap))=if sz=eQ∧sz=nT∧off+len≤xs.length then Em sz id off lo (dQ hi len (xs.length-off))else none:=rfl
theorem ED(h:aA)(sz id eQ off len:Nat)(lo hi:Option DV):iI h sz (.sl id eQ off len) lo hi=Jj sz eQ id off len lo hi (h.get id):=by
 simp only[iI,Jj]
 cases h.get id with
 | none=>rfl
 | some o=>cases o with
  | arr e s xs c =>
   simp only
   split
   ·cases dQ hi len (xs.length-off)with
    | none=>rfl
    | some b=>first|(simp only[Em];done)|(simp only[Em];cases dQ lo 0 b<;>rfl)
   ·rfl
  | _=>rfl
def ZA(sz id off b:Nat):Option Nat→Option DV
 | some a=>some (.sl id sz (off+a) (b-a))
 | none=>none
theorem En(sz id off b a:Nat):ZA sz id off b (some a)=some (.sl id sz (off+a) (b-a)):=rfl
theorem wY(sz id off:Nat)(lo:Option DV)(b:Nat):Em sz id off lo (some b)=ZA sz id off b (dQ lo 0 b):=by
 simp only[Em,ZA]
def PL(h:aA)(sz eQ id off len:Nat)(ys:List DV):Option DO→Option (DV×aA)
 | some (.arr ety nT xs cap)=>if sz=eQ∧sz=nT∧off+len≤xs.length∧h.lim≤id then some (.int .i64 (ys.take len).length,h.set id (.arr ety sz (dE xs (ys.take len) off) cap))else none
 | _=>none
theorem V4(h:aA)(sz eQ id off len:Nat)(ys:List DV)(ety nT:Nat)(xs:List DV)(cap:Option Nat):PL h sz eQ id off len ys (some (.arr ety nT xs cap))=if sz=eQ∧sz=nT∧off+len≤xs.length∧h.lim≤id then some (.int .i64 (ys.take len).length,h.set id (.arr ety sz (dE xs (ys.take len) off) cap))else none:=rfl
theorem PM(h:aA)(sz id eQ off len:Nat)(ys:List DV):xZ h sz (.sl id eQ off len) ys=PL h sz eQ id off len ys (h.get id):=by
 simp only[xZ,PL]
 cases h.get id with
 | none=>rfl
 | some o=>cases o<;>rfl
def PO(h:aA):DV→Option DV
 | .nsl=>some (.int .i64 0)
 | .sl id sz off _=>match h.get id with
  | some (.arr _ eQ _ (some c))=>if sz=eQ then some (.int .i64 (c-off:Nat))else none
  | some (.arr _ eQ xs none)=>if sz=eQ then some (.atl (xs.length-off))else none
  | _=>none
 | _=>none
theorem KZ(h:aA)(env:Env)(x:Opd):aK h env (.cap x)=dZ h (PO h (x.eval env)):=by
 simp only[aK,PO]
 cases x.eval env with
 | sl id sz off len =>
  simp only
  cases h.get id with
  | none=>rfl
  | some o=>cases o with
   | arr e s xs c=>cases c<;>simp only<;>split<;>rfl
   | _=>rfl
 | _=>rfl
theorem ZU(c:Nat→List DV→aA→Option (DV×aA))(h:aA)(env:Env)(x:Opd):cG c (.cap x) env h=dZ h (PO h (x.eval env)):=KZ h env x
def VF(sz off:Nat):Option DO→Option DV
 | some (.arr _ eQ _ (some c))=>if sz=eQ then some (.int .i64 (c-off:Nat))else none
 | some (.arr _ eQ xs none)=>if sz=eQ then some (.atl (xs.length-off))else none
 | _=>none
theorem VE(h:aA)(id sz off len:Nat):PO h (.sl id sz off len)=VF sz off (h.get id):=by
 simp only[PO,VF]
theorem HN(sz off ety eQ:Nat)(xs:List DV):VF sz off (some (.arr ety eQ xs none))=if sz=eQ then some (.atl (xs.length-off))else none:=rfl
theorem HM(sz off ety eQ:Nat)(xs:List DV)(c:Nat):VF sz off (some (.arr ety eQ xs (some c)))=if sz=eQ then some (.int .i64 (c-off:Nat))else none:=rfl
theorem W6(a:Int)(n:Nat)(h:a≤(n:Int)):cO .gtr (.int .i64 a) (.atl n)=some (.bool false):=by simp[cO,h]
def D1(h:aA)(ety sz bytes:Nat)(z s:DV)(x:DV):Option (DV×aA):=match asI x with
  | some n=>if 0≤n∧n≤140737488355328 then aY h ety sz bytes s (List.replicate n.toNat z)else none
  | none=>none
theorem P9(c:Nat→List DV→aA→Option (DV×aA))(h:aA)(env:Env)(ety sz bytes:Nat)(z:DV)(s x:Opd):cG c (.appendZ ety sz bytes z s x) env h=D1 h ety sz bytes z (s.eval env) (x.eval env):=rfl
theorem Ut(h:aA)(ety sz bytes:Nat)(z s:DV)(k:IntKind)(n:Int):D1 h ety sz bytes z s (.int k n)=if 0≤n∧n≤140737488355328 then aY h ety sz bytes s (List.replicate n.toNat z)else none:=rfl
theorem RW{h:aA}{id:Nat}{o o':DO}:(h.set id o).set id o'=h.set id o':=by
 simp[aA.set]
theorem Vc{h:aA}{o:DO}:WF (h.push o)↔WF h:=⟨fun w=>by unfold WF at *;simpa[aA.push]using w,fun w=>w.push⟩
theorem E9{h:aA}{id:Nat}{o:DO}:WF (h.set id o)↔WF h:=⟨fun w=>by unfold WF at *;simpa[aA.set]using w,fun w=>w.set⟩
theorem T3{h:aA}{id k:Nat}{o:DO}(w:WF h)(fS:id<h.n):(h.set id o).get k=if k=id then some o else h.get k:=cA w fS
def wl(h:aA)(l:Nat):aA:={h with lim:=l}
theorem CE{h:aA}{l:Nat}:WF (wl h l)↔WF h:=Iff.rfl
theorem WF.wl{h:aA}(w:WF h)(l:Nat):WF (Dm.wl h l):=w
def crV(h:aA)(L:dF):Option (DV×aA)→Option (DV×aA×dF)
 | some (v,h')=>some (v,wl h' h.lim,L)
 | none=>none
theorem PG(h:aA)(L:dF)(v:DV)(h':aA):crV h L (some (v,h'))=some (v,wl h' h.lim,L):=rfl
theorem iS(c:jD)(l r:Nat)(L:dF)(o:DOp)(env:Env)(h:aA)(hp:oC L env o=none):dP c l r L o env h=crV h L (cG c o env (wl h (max l h.lim))):=by
 unfold dP
 rw[hp]
 simp only[oK,wl]
 cases cG c o env {h with lim:=max l h.lim} with
 | some p=>rfl
 | none =>
  simp only[crV]
  cases hq:uA c r L o env h with
  | none=>rfl
  | some x=>exact absurd hq (vM _ _ _ _ _ _ _)
theorem Oa(c:jD)(l r:Nat)(L:dF)(g:Opd)(as:List Opd)(env:Env)(h:aA):dP c l r L (.call g as) env h=crV h L (cG c (.call g as) env (wl h (max l h.lim))):=iS _ _ _ _ _ _ _ rfl
theorem Mg(c:jD)(l r:Nat)(L:dF)(e s:Nat)(z:DV)(env:Env)(h:aA):dP c l r L (.alloc e s z) env h=crV h L (cG c (.alloc e s z) env (wl h (max l h.lim))):=iS _ _ _ _ _ _ _ rfl
theorem Uj(c:jD)(l r:Nat)(L:dF)(e s:Nat)(z:Opd)(env:Env)(h:aA):dP c l r L (.box e s z) env h=crV h L (cG c (.box e s z) env (wl h (max l h.lim))):=iS _ _ _ _ _ _ _ rfl
theorem zK(c:jD)(l r:Nat)(L:dF)(e s:Nat)(z:DV)(n:Nat)(ps:List (Nat×Opd))(env:Env)(h:aA):dP c l r L (.buildSlice e s z n ps) env h=crV h L (cG c (.buildSlice e s z n ps) env (wl h (max l h.lim))):=iS _ _ _ _ _ _ _ rfl
theorem Nz(c:jD)(l r:Nat)(L:dF)(s:Nat)(d x:Opd)(env:Env)(h:aA):dP c l r L (.copy s d x) env h=crV h L (cG c (.copy s d x) env (wl h (max l h.lim))):=iS _ _ _ _ _ _ _ rfl
theorem Fj(c:jD)(l r:Nat)(L:dF)(env:Env)(h:aA):dP c l r L .makeMap env h=crV h L (cG c .makeMap env (wl h (max l h.lim))):=iS _ _ _ _ _ _ _ rfl
def MH:DV→Option Nat|.ptr id ..=>some id|_=>none
def Jl:DV→Option Nat|.sl id ..=>some id|_=>none
def mapId:DV→Option Nat|.map id=>some id|_=>none
section
variable (env:Env)
theorem RH(n:Option Nat)(a:Opd):cK env (.load n a)=MH (a.eval env):=by simp only[cK];cases a.eval env<;>rfl
theorem Vl(sz:Nat)(x:Opd)(lo hi:Option Opd):cK env (.sliceSl sz x lo hi)=Jl (x.eval env):=by simp only[cK];cases x.eval env<;>rfl
theorem JT(x:Opd):cK env (.cap x)=Jl (x.eval env):=by simp only[cK];cases x.eval env<;>rfl
theorem JQ(k:Nat)(x:Opd):cK env (.len k x)=mapId (x.eval env):=by simp only[cK];cases x.eval env<;>rfl
theorem Oc(q:EqT)(z:DV)(ok:Bool)(m k:Opd):cK env (.lookup q z ok m k)=mapId (m.eval env):=by simp only[cK];cases m.eval env<;>rfl
theorem RG(x:Opd):cK env (.move x)=none:=_root_.id rfl
theorem RF(c a b:Opd):cK env (.pick c a b)=none:=_root_.id rfl
theorem JU(z:List DV)(ps:List (Nat×Nat×Opd)):cK env (.build z ps)=none:=_root_.id rfl
theorem JW(op:BinOp)(x y:Opd):cK env (.arith op x y)=none:=_root_.id rfl
theorem WZ(n:Bool)(x y:Opd):cK env (.eqb n x y)=none:=_root_.id rfl
theorem XA(n:Bool)(ks:List Nat)(x y:Opd):cK env (.eqa n ks x y)=none:=_root_.id rfl
theorem WY(k:Nat)(n:Bool)(x y:Opd):cK env (.eqn k n x y)=none:=_root_.id rfl
theorem AaI(op:UnOp)(x:Opd):cK env (.un op x)=none:=_root_.id rfl
theorem RI(k:IntKind)(x:Opd):cK env (.conv k x)=none:=_root_.id rfl
theorem JV(x:Opd):cK env (.asStr x)=none:=_root_.id rfl
theorem Vm(x:Opd):cK env (.nilCheck x)=none:=_root_.id rfl
theorem Pz(o:Nat)(x:Opd):cK env (.fieldAddr o x)=none:=_root_.id rfl
theorem JS(o:Nat)(n:Option Nat)(x:Opd):cK env (.field o n x)=none:=_root_.id rfl
theorem Py(s:Nat)(x i:Opd):cK env (.indexAddr s x i)=none:=_root_.id rfl
theorem Vp(l e:Nat)(x i:Opd):cK env (.indexArr l e x i)=none:=_root_.id rfl
theorem JR(l e:Nat)(n:Option Nat)(x i:Opd):cK env (.index l e n x i)=none:=_root_.id rfl
theorem Vo(x i:Opd):cK env (.indexStr x i)=none:=_root_.id rfl
theorem Vk(x:Opd)(lo hi:Option Opd):cK env (.sliceStr x lo hi)=none:=_root_.id rfl
theorem CH(b:Bool)(x y:Opd):cK env (.minmax b x y)=none:=_root_.id rfl
theorem Vn(f:FuncId)(c:List Opd):cK env (.makeFunc f c)=none:=_root_.id rfl
theorem F9(x:Opd)(i:Nat):cK env (.extract x i)=none:=_root_.id rfl
theorem Px(t:TypeId)(x:Opd):cK env (.makeIface t x)=none:=_root_.id rfl
def FR:Option Nat→Option (Nat×mG)
 | some id=>some (id,none)
 | none=>none
theorem FP(id:Nat):FR (some id)=some (id,none):=_root_.id rfl
theorem FQ:FR none=none:=_root_.id rfl
def MG(n:Option Nat):DV→Option (Nat×mG)
 | .ptr id sz i o=>some (id,some (n,sz,i,o))
 | _=>none
theorem FD(n:Option Nat)(id sz i o:Nat):MG n (.ptr id sz i o)=some (id,some (n,sz,i,o)):=_root_.id rfl
theorem O8(n:Option Nat)(l:Bool)(cs:List DV)(o:Nat):MG n (.iptr l cs o)=none:=_root_.id rfl
theorem TK(n:Option Nat)(a:Opd):mark env (.load n a)=MG n (a.eval env):=by simp only[mark];cases a.eval env<;>rfl
theorem MZ(sz:Nat)(x:Opd)(lo hi:Option Opd):mark env (.sliceSl sz x lo hi)=FR (Jl (x.eval env)):=by rw[←Vl env];simp only[mark];cases cK env (.sliceSl sz x lo hi)<;>rfl
theorem b8(x:Opd):mark env (.cap x)=FR (Jl (x.eval env)):=by rw[←JT env];simp only[mark];cases cK env (.cap x)<;>rfl
theorem ZX(k:Nat)(x:Opd):mark env (.len k x)=FR (mapId (x.eval env)):=by rw[←JQ env];simp only[mark];cases cK env (.len k x)<;>rfl
theorem FV(q:EqT)(z:DV)(ok:Bool)(m k:Opd):mark env (.lookup q z ok m k)=FR (mapId (m.eval env)):=by rw[←Oc env];simp only[mark];cases cK env (.lookup q z ok m k)<;>rfl
theorem TJ(x:Opd):mark env (.move x)=none:=_root_.id rfl
theorem TI(c a b:Opd):mark env (.pick c a b)=none:=_root_.id rfl
theorem NC(z:List DV)(ps:List (Nat×Nat×Opd)):mark env (.build z ps)=none:=_root_.id rfl
theorem NE(op:BinOp)(x y:Opd):mark env (.arith op x y)=none:=_root_.id rfl
theorem ZZ(n:Bool)(x y:Opd):mark env (.eqb n x y)=none:=_root_.id rfl
theorem b7(n:Bool)(ks:List Nat)(x y:Opd):mark env (.eqa n ks x y)=none:=_root_.id rfl
theorem ZY(k:Nat)(n:Bool)(x y:Opd):mark env (.eqn k n x y)=none:=_root_.id rfl
theorem AeJ(op:UnOp)(x:Opd):mark env (.un op x)=none:=_root_.id rfl
theorem TL(k:IntKind)(x:Opd):mark env (.conv k x)=none:=_root_.id rfl
theorem ND(x:Opd):mark env (.asStr x)=none:=_root_.id rfl
theorem Yg(x:Opd):mark env (.nilCheck x)=none:=_root_.id rfl
theorem Th(o:Nat)(x:Opd):mark env (.fieldAddr o x)=none:=_root_.id rfl
theorem NB(o:Nat)(n:Option Nat)(x:Opd):mark env (.field o n x)=none:=_root_.id rfl
theorem Tg(s:Nat)(x i:Opd):mark env (.indexAddr s x i)=none:=_root_.id rfl
theorem Yj(l e:Nat)(x i:Opd):mark env (.indexArr l e x i)=none:=_root_.id rfl
theorem NA(l e:Nat)(n:Option Nat)(x i:Opd):mark env (.index l e n x i)=none:=_root_.id rfl
theorem Yi(x i:Opd):mark env (.indexStr x i)=none:=_root_.id rfl
theorem Yf(x:Opd)(lo hi:Option Opd):mark env (.sliceStr x lo hi)=none:=_root_.id rfl
theorem FU(b:Bool)(x y:Opd):mark env (.minmax b x y)=none:=_root_.id rfl
theorem Yh(f:FuncId)(c:List Opd):mark env (.makeFunc f c)=none:=_root_.id rfl
theorem Q3(x:Opd)(i:Nat):mark env (.extract x i)=none:=_root_.id rfl
theorem Tf(t:TypeId)(x:Opd):mark env (.makeIface t x)=none:=_root_.id rfl
end
theorem FE(a b c d:Nat):MH (.ptr a b c d)=some a:=_root_.id rfl
theorem O9(l:Bool)(cs:List DV)(o:Nat):MH (.iptr l cs o)=none:=_root_.id rfl
theorem RT(a b c d:Nat):Jl (.sl a b c d)=some a:=_root_.id rfl
theorem LD:Jl .nsl=none:=_root_.id rfl
theorem RU{α:Type}(t:Bool)(sz:Nat)(e:α→DV)(xs:List α):Jl (eL t sz e xs)=none:=by cases xs<;>rfl
theorem FZ(i:Nat):mapId (.map i)=some i:=_root_.id rfl
theorem NJ{α:Type}(t:Bool)(sz:Nat)(e:α→DV)(xs:List α):mapId (eL t sz e xs)=none:=by cases xs<;>rfl
theorem NI(a b c d:Nat):mapId (.sl a b c d)=none:=_root_.id rfl
theorem FY:mapId .nsl=none:=_root_.id rfl
theorem FX(s:List UInt8):mapId (.str s)=none:=_root_.id rfl
theorem GC:dF.start=⟨[],[]⟩:=_root_.id rfl
theorem NO(L:dF)(t:Option (Nat×mG)):dF.see L true t=L:=_root_.id rfl
theorem TO(L:dF)(t:Option (Nat×mG)):dF.see L false t=dF.read L t:=_root_.id rfl
theorem NM(r:List (Nat×mG))(p:List (Nat×Nat))(x:Nat×mG):dF.read ⟨r,p⟩ (some x)=⟨x::r,p⟩:=_root_.id rfl
theorem GD(L:dF):dF.read L none=L:=_root_.id rfl
theorem GF(r:List (Nat×mG))(s:Nat)(t:Option Nat):dF.free ⟨r,[]⟩ s t=true:=by cases t<;>rfl
theorem GE(L:dF)(s:Nat):dF.free L s none=true:=_root_.id rfl
theorem NN(r:List (Nat×mG))(p:Nat×Nat)(ps:List (Nat×Nat))(s id:Nat):dF.free ⟨r,p::ps⟩ s (some id)=((decide (p.1<s) || !decide (p.2=id)) && dF.free ⟨r,ps⟩ s (some id)):=by
 have e1:Nat.blt p.1 s=decide (p.1<s):=by rw[Bool.eq_iff_iff];simp[Nat.blt_eq]
 have e2:Nat.beq p.2 id=decide (p.2=id):=by rw[Bool.eq_iff_iff];simp
 simp only[dF.free,List.all_cons,e1,e2]
theorem W7(m:Option Nat)(z i o n idx off:Nat):uX (some (m,z,i,o)) n idx off=(!decide (i=idx) || decide (o+Ih m≤off) || decide (off+n≤o)):=by
 have e2:Nat.beq i idx=decide (i=idx):=by rw[Bool.eq_iff_iff];simp
 have e3:Nat.ble (o+Ih m) off=decide (o+Ih m≤off):=by rw[Bool.eq_iff_iff];simp
 have e4:Nat.ble (off+n) o=decide (off+n≤o):=by rw[Bool.eq_iff_iff];simp
 simp only[uX,e2,e3,e4]
theorem W8(n idx off:Nat):uX none n idx off=false:=_root_.id rfl
theorem E8:Ih none=1:=_root_.id rfl
theorem E7(n:Nat):Ih (some n)=n:=_root_.id rfl
def pkA(L:dF):Option Nat→Option Nat
 | some id=>if L.rds.all (fun x=>!decide (x.1=id))=true then some id else none
 | none=>none
theorem ML(r:List (Nat×mG))(p:List (Nat×Nat))(id:Nat):pkA ⟨r,p⟩ (some id)=if r.all (fun x=>!decide (x.1=id))=true then some id else none:=_root_.id rfl
theorem MM(L:dF):pkA L none=none:=_root_.id rfl
theorem AdJ(L:dF)(id:Nat):(L.rds.all fun x=>!(Nat.beq x.1 id))=(L.rds.all fun x=>!decide (x.1=id)):=by
 congr 1;funext x
 have e2:Nat.beq x.1 id=decide (x.1=id):=by rw[Bool.eq_iff_iff];simp
 rw[e2]
def pkS(L:dF)(n:Nat):DV→Option Nat
 | .ptr id _ idx off=>if L.rds.all (fun x=>!decide (x.1=id) || uX x.2 n idx off)=true then some id else none
 | _=>none
theorem ST(r:List (Nat×mG))(p:List (Nat×Nat))(n id sz idx off:Nat):pkS ⟨r,p⟩ n (.ptr id sz idx off)=if r.all (fun x=>!decide (x.1=id) || uX x.2 n idx off)=true then some id else none:=_root_.id rfl
theorem MK(L:dF)(n:Nat)(l:Bool)(cs:List DV)(o:Nat):pkS L n (.iptr l cs o)=none:=_root_.id rfl
theorem MI(L:dF)(env:Env)(n:Nat)(a x:Opd):oC L env (.store n a x)=pkS L n (a.eval env):=by
 simp only[oC]
 cases a.eval env<;>try rfl
 rename_i id sz idx off
 have:(L.rds.all fun x=>!(Nat.beq x.1 id) || uX x.2 n idx off)=(L.rds.all fun x=>!decide (x.1=id) || uX x.2 n idx off):=by
  congr 1;funext x
  have e2:Nat.beq x.1 id=decide (x.1=id):=by rw[Bool.eq_iff_iff];simp
  rw[e2]
 simp only[this];rfl
theorem FG(L:dF)(env:Env)(e s b:Nat)(a x:Opd):oC L env (.append e s b a x)=pkA L (Jl (a.eval env)):=by
 simp only[oC,pkA,Jl,AdJ];cases a.eval env<;>rfl
def pkV(L:dF)(r id:Nat):Option (DV×aA)→Option (DV×aA×dF)
 | some (v,h')=>some (v,h',⟨L.rds,(r,id)::L.pks⟩)
 | none=>none
theorem MJ(rs:List (Nat×mG))(ps:List (Nat×Nat))(r id:Nat)(v:DV)(h':aA):pkV ⟨rs,ps⟩ r id (some (v,h'))=some (v,h',⟨rs,(r,id)::ps⟩):=_root_.id rfl
def crP(c:jD)(l r:Nat)(L:dF)(o:DOp)(env:Env)(h:aA):Option Nat→Option (DV×aA×dF)
 | some id=>pkV L r id (aK h env o)
 | none=>crV h L (cG c o env (wl h (max l h.lim)))
theorem PH(c:jD)(l r:Nat)(L:dF)(o:DOp)(env:Env)(h:aA)(id:Nat):crP c l r L o env h (some id)=pkV L r id (aK h env o):=_root_.id rfl
theorem PI(c:jD)(l r:Nat)(L:dF)(o:DOp)(env:Env)(h:aA):crP c l r L o env h none=crV h L (cG c o env (wl h (max l h.lim))):=_root_.id rfl
theorem Gp(c:jD)(l r:Nat)(L:dF)(o:DOp)(env:Env)(h:aA):dP c l r L o env h=crP c l r L o env h (oC L env o):=by
 cases hp:oC L env o with
 | none=>rw[iS _ _ _ _ _ _ _ hp];rfl
 | some id =>
  unfold dP
  rw[hp]
  simp only[crP,pkV]
  cases aK h env o with
  | none=>rfl
  | some q=>rfl
theorem Md(c:jD)(l r:Nat)(L:dF)(n:Nat)(a x:Opd)(env:Env)(h:aA):dP c l r L (.store n a x) env h=crP c l r L (.store n a x) env h (pkS L n (a.eval env)):=by rw[Gp,MI]
theorem Hl(c:jD)(l r:Nat)(L:dF)(e s b:Nat)(a x:Opd)(env:Env)(h:aA):dP c l r L (.append e s b a x) env h=crP c l r L (.append e s b a x) env h (pkA L (Jl (a.eval env))):=by rw[Gp,FG]
theorem Bm(c:jD)(l r:Nat)(L:dF)(q:EqT)(m k x:Opd)(env:Env)(h:aA):dP c l r L (.mapUpdate q m k x) env h=crV h L (cG c (.mapUpdate q m k x) env (wl h (max l h.lim))):=iS _ _ _ _ _ _ _ rfl
theorem SO(t:Bool)(h:aA)(n:Nat)(k:IntKind)(m:Int):resolve t h (n+1) (.int k m)=some (.int k m):=rfl
theorem MD(t:Bool)(h:aA)(n:Nat)(m:Bool):resolve t h (n+1) (.bool m)=some (.bool m):=rfl
theorem SM(t:Bool)(h:aA)(n:Nat)(m:List UInt8):resolve t h (n+1) (.str m)=some (.str m):=rfl
theorem SN(t:Bool)(h:aA)(n:Nat):resolve t h (n+1) .nsl=some (.isl false 0 []):=rfl
theorem MB(t:Bool)(h:aA)(n:Nat)(l:Bool)(cs:List DV)(o:Nat):resolve t h (n+1) (.iptr l cs o)=some (.iptr l cs o):=rfl
theorem MC{α:Type}(t:Bool)(h:aA)(n:Nat)(t':Bool)(sz:Nat)(e:α→DV)(xs:List α):resolve t h (n+1) (eL t' sz e xs)=some (eL t' sz e xs):=eM t' sz e xs t h (n+1) (by omega)
theorem Xo(t:Bool)(h:aA)(n:Nat)(p:bI):resolve t h (n+1) (bF p)=some (bF p):=MC ..
theorem MA(t:Bool)(h:aA)(n:Nat):resolve t h (n+1) .nili=some .nili:=rfl
theorem LZ(t:Bool)(h:aA)(n:Nat):resolve t h (n+1) .nilp=some .nilp:=rfl
theorem Ib(t:Bool)(h:aA)(v:DV):resolve t h cW v=resolve t h (199+1) v:=rfl
def wL(t:Bool)(h:aA)(n:Nat)(vs:List DV):Option (List DV):=vs.mapM (resolve t h n)
theorem SP(t:Bool)(h:aA)(n:Nat)(vs:List DV):vs.mapM (resolve t h n)=wL t h n vs:=rfl
theorem ME(t:Bool)(h:aA)(n:Nat):wL t h n []=some []:=rfl
def WL:Option DV→Option (List DV)→Option (List DV)
 | some x,some l=>some (x::l)
 | _,_=>none
theorem V5(x:DV)(l:List DV):WL (some x) (some l)=some (x::l):=rfl
theorem EY(t:Bool)(h:aA)(n:Nat)(v:DV)(vs:List DV):wL t h n (v::vs)=WL (resolve t h n v) (wL t h n vs):=by
 unfold wL
 rw[List.mapM_cons]
 cases resolve t h n v<;>cases vs.mapM (resolve t h n)<;>rfl
def aggO:Option (List DV)→Option DV|some c=>some (.agg c)|none=>none
def tupO:Option (List DV)→Option DV|some c=>some (.tup c)|none=>none
def funO(f:Nat):Option (List DV)→Option DV|some c=>some (.func f c)|none=>none
theorem IJ(c:List DV):aggO (some c)=some (.agg c):=rfl
theorem CG(c:List DV):tupO (some c)=some (.tup c):=rfl
theorem GP(f:Nat)(c:List DV):funO f (some c)=some (.func f c):=rfl
theorem AN(t:Bool)(h:aA)(n:Nat)(cs:List DV):resolve t h (n+1) (.agg cs)=aggO (wL t h n cs):=by
 simp only[resolve];unfold wL;cases cs.mapM (resolve t h n)<;>rfl
theorem SL(t:Bool)(h:aA)(n:Nat)(cs:List DV):resolve t h (n+1) (.tup cs)=tupO (wL t h n cs):=by
 simp only[resolve];unfold wL;cases cs.mapM (resolve t h n)<;>rfl
theorem Cq(t:Bool)(h:aA)(n:Nat)(f:Nat)(cs:List DV):resolve t h (n+1) (.func f cs)=funO f (wL t h n cs):=by
 simp only[resolve];unfold wL;cases cs.mapM (resolve t h n)<;>rfl
def NX(t:Bool)(off:Nat):Option (List DV)→Option DV|some c=>some (.iptr t c off)|none=>none
theorem R7(t:Bool)(off:Nat)(c:List DV):NX t off (some c)=some (.iptr t c off):=rfl
def SQ(t:Bool)(h:aA)(n sz off:Nat):Option DV→Option DV|some e=>NX t off (wL t h n (aP sz e))|none=>none
theorem EZ(t:Bool)(h:aA)(n sz off:Nat)(e:DV):SQ t h n sz off (some e)=NX t off (wL t h n (aP sz e)):=rfl
def Sr(t:Bool)(h:aA)(n sz idx off:Nat):Option DO→Option DV
 | some (.arr _ eQ xs _)=>if sz=eQ then SQ t h n sz off xs[idx]? else none
 | _=>none
theorem Sq(t:Bool)(h:aA)(n sz idx off ety eQ:Nat)(xs:List DV)(cap:Option Nat):Sr t h n sz idx off (some (.arr ety eQ xs cap))=if sz=eQ then SQ t h n sz off xs[idx]? else none:=rfl
theorem O5(t:Bool)(h:aA)(n id sz idx off:Nat):resolve t h (n+1) (.ptr id sz idx off)=Sr t h n sz idx off (h.get id):=by
 simp only[resolve,Sr]
 cases h.get id with
 | none=>rfl
 | some o=>cases o with
  | arr e s xs c =>
   simp only
   split
   ·cases xs[idx]? with
    | none=>rfl
    | some x=>simp only[SQ,wL];cases(aP sz x).mapM (resolve t h n)<;>rfl
   ·rfl
  | _=>rfl
def d9(t:Bool)(sz:Nat):Option (List DV)→Option DV|some ys=>some (mkIsl t sz ys)|none=>none
theorem GH(t:Bool)(sz:Nat)(ys:List DV):d9 t sz (some ys)=some (mkIsl t sz ys):=rfl
def Et(t:Bool)(h:aA)(n sz off len:Nat):Option DO→Option DV
 | some (.arr _ eQ xs _)=>if sz=eQ∧off+len≤xs.length then d9 t sz (wL t h n ((xs.drop off).take len))else none
 | _=>none
theorem gF(t:Bool)(h:aA)(n sz off len ety eQ:Nat)(xs:List DV)(cap:Option Nat):Et t h n sz off len (some (.arr ety eQ xs cap))=if sz=eQ∧off+len≤xs.length then d9 t sz (wL t h n ((xs.drop off).take len))else none:=rfl
theorem lB(t:Bool)(h:aA)(n id sz off len:Nat):resolve t h (n+1) (.sl id sz off len)=Et t h n sz off len (h.get id):=by
 simp only[resolve,Et]
 cases h.get id with
 | none=>rfl
 | some o=>cases o with
  | arr e s xs c =>
   simp only
   split
   ·simp only[wL];cases((xs.drop off).take len).mapM (resolve t h n)<;>rfl
   ·rfl
  | _=>rfl
def outV(h:aA)(v:DV):Option DV :=
 match resolve false h (199+1) v with
 | some d=>if bJ (199+1) d then some d else none
 | none=>none
theorem iB(v:DV)(h:aA):dC (some (v,h))=outV h v:=rfl
def JK:Option DV→Option DV
 | some d=>if bJ (199+1) d then some d else none
 | none=>none
theorem SX(h:aA)(v:DV):outV h v=JK (resolve false h (199+1) v):=rfl
theorem JJ(k:IntKind)(n:Int):JK (some (.int k n))=some (.int k n):=rfl
theorem CF(b:Bool):JK (some (.bool b))=some (.bool b):=rfl
theorem JI(b:List UInt8):JK (some (.str b))=some (.str b):=rfl
theorem QX(d:DV):JK (some d)=if bJ 200 d=true then some d else none:=rfl
theorem WV(n:Nat)(k:IntKind)(m:Int):bJ (n+1) (.int k m)=true:=rfl
theorem RD(n:Nat)(m:Bool):bJ (n+1) (.bool m)=true:=rfl
theorem WU(n:Nat)(m:List UInt8):bJ (n+1) (.str m)=true:=rfl
theorem WX(n:Nat)(cs:List DV):bJ (n+1) (.agg cs)=cs.all (bJ n):=rfl
theorem WT(n:Nat)(cs:List DV):bJ (n+1) (.tup cs)=cs.all (bJ n):=rfl
theorem QY(n:Nat)(p:bI):bJ (n+21) (bF p)=true:=tT p (n+21) (by omega)
theorem RB(n:Nat)(sz:Nat):bJ (n+1) (.isl false sz [])=true:=by simp[bJ]
theorem RA(n:Nat):bJ (n+1) .nili=true:=rfl
theorem QZ(n:Nat):bJ (n+1) .nilp=true:=rfl
theorem Xh(D:dA)(N:Nat)(S:List Fr)(f:cY)(hs:List aA)(L:dF)(dst:Option Nat)(op:DOp)(s:Nat)(cm:Bool)(r:List aZ)(hf:L.free s (cK (tab N f) op)=true) :
  Co D N S dst op s cm r f hs L .read=Xi D N S dst op cm r f hs L (kK hs s):=by rw[N8,if_pos hf]
theorem xK{α:Type}(t:Bool)(sz:Nat)(e:α→DV)(xs:List α)(k:IntKind)(i:Int)(h0:0≤i):bS sz (eL t sz e xs) (.int k i)=(xs[i.toNat]?).map fun a=>.iptr t (aP sz (e a)) 0:=by
 cases hx:xs[i.toNat]? with
 | some a=>rw[Kp t sz e k h0 hx];rfl
 | none =>
  cases xs with
  | nil=>simp[hY,bS,asI]
  | cons x xs =>
   have hy:(List.map e (x::xs))[i.toNat]?=none:=by rw[List.getElem?_map,hx];rfl
   rw[wB,←List.map_cons]
   simp only[bS,asI,h0,and_self,if_true,hy,Option.map_none]
theorem xJ{α:Type}(t:Bool)(sz:Nat)(e:α→DV)(xs:List α)(k:IntKind)(i:Nat):bS sz (eL t sz e xs) (.int k (i:Int))=(xs[i]?).map fun a=>.iptr t (aP sz (e a)) 0:=by
 rw[xK _ _ _ _ _ _ (Int.natCast_nonneg i)];simp
theorem Hd{α:Type}(t:Bool)(sz:Nat)(e:α→DV)(xs:List α)(k:IntKind)(i:Nat):bS sz (eL t sz e xs) (.int k ((i:Int)+1))=(xs[i+1]?).map fun a=>.iptr t (aP sz (e a)) 0:=by
 have:=xJ t sz e xs k (i+1)
 rwa[Int.natCast_add]at this
theorem By{n:Int}(h1:0≤n)(h2:n≤18446744073709551615):IntKind.u64.wrap n=n:=by
 exact Go.IntWalk.u64_in n ⟨h1,h2⟩
theorem W5(a:Int):cO .shr (.int .u64 a) (.int .u64 1)=some (.int .u64 (a.fdiv 2)):=by
 simp[cO,IntKind.bits]
theorem half(i j:Nat):((i:Int)+j).fdiv 2=((i+j) / 2:Nat):=by
 rw[Int.fdiv_eq_ediv_of_nonneg _ (by decide)];omega
theorem jP(k:IntKind)(n d l:Nat)(h:n≤l):dQ (some (.int k (n:Int))) d l=some n:=by
 rw[wF _ _ _ _ (by omega) (by omega)];simp
theorem C5(k:IntKind)(n d l:Nat)(h:n+1≤l):dQ (some (.int k ((n:Int)+1))) d l=some (n+1):=by
 rw[wF _ _ _ _ (by omega) (by omega)];simp
theorem C4(k:IntKind)(d l:Nat):dQ (some (.int k 0)) d l=some 0:=by
 rw[wF _ _ _ _ (by omega) (by omega)];simp
theorem N2(D:dA)(N:Nat)(S:List Fr)(f:cY)(h:aA)(o:aZ)(w:Bool)(r:List aZ):ER D N S o w r f h cH=Cn D N S r (tZ f o.dst cH) h:=rfl
theorem Xj(D:dA)(N:Nat)(S:List Fr)(f:cY)(hs:List aA)(L:dF)(o:aZ)(w:Bool)(r:List aZ):Xk D N S o w r f hs L cH=zR D N S o.dst o.kind r f L hs:=rfl
theorem aC{b c:aN}(hb:b=c)(D:dA)(N:Nat)(S:List Fr)(f:cY)(h:aA):run D N S (.loop b) f h=run D N (.loop b::S) c f h:=by
 rw[LO];rw[←hb]
theorem QO(h:aA)(o:DO):(h.push o).n=h.n+1:=_root_.id rfl
theorem CD(h:aA)(o:DO):(h.push o).lim=h.lim:=_root_.id rfl
theorem WQ(h:aA)(id':Nat)(o:DO):(h.set id' o).n=h.n:=_root_.id rfl
theorem JC(h:aA)(id':Nat)(o:DO):(h.set id' o).lim=h.lim:=_root_.id rfl
theorem AaE(h:aA)(l:Nat):(wl h l).n=h.n:=_root_.id rfl
theorem QP(h:aA)(l:Nat):(wl h l).lim=l:=_root_.id rfl
theorem QQ(h:aA)(l i:Nat):(wl h l).get i=h.get i:=_root_.id rfl
theorem JA(h:aA)(l:Nat)(o:DO):(wl h l).push o=wl (h.push o) l:=_root_.id rfl
theorem QN(h:aA)(l i:Nat)(o:DO):(wl h l).set i o=wl (h.set i o) l:=_root_.id rfl
theorem WP(h:aA)(a b:Nat):wl (wl h a) b=wl h b:=_root_.id rfl
theorem IZ(h:aA):wl h h.lim=h:=_root_.id rfl
theorem Pt(h:aA)(o:DO):wl (h.push o) h.lim=h.push o:=_root_.id rfl
theorem QR(h:aA)(l:Nat)(hl:l=h.lim):wl h l=h:=by subst hl;rfl
theorem JB:pB.n=0:=_root_.id rfl
theorem E6:pB.lim=0:=_root_.id rfl
attribute [simp] SH N0 EP LT EM SJ EL LN SI LP EW Ni Ju So Xl SK Nh Sp LY
 LR EU O2 LW o8 p9 AdI PW FA FB QU
 TA SZ MV ZV MS Nm TB MP Ya MU ZS ZT ZR AeC TE MT Td MR Tb Yd MQ Yc Xz P6 ZQ FM TD FK Yb P7 P8 Ta FL Sz
 Bq VG Ry Rx Na Rs Rt Wk Ru Rw Mz Rv Jc My Mx Fs Mw
 WQ JC cN QO JB E6 CD Q8 NP Q9 R0 DZ Wi Wj OZ xX Wh JO RW Vc E9 CE T3 JD AaE QP QQ JA QN WP IZ Pt QR PG Oa Mg Uj zK Nz Fj ED wZ wY En V3 PM V4 ZU KZ VE HN HM W6 P9 Ut AeB AeA Xr A5 U8 Zz U3 U5 HD U4 U7 Zy U6 Ui Zx Zw Pk Zv
 Lo Hi U0 TQ NS NT TP NU C8 C6 C7 IC HX HY HZ IA IB HW HQ HR HT HU HV WR WS
 OW uT C0 C1 B9 Uo P0 rS Xt T6 HA P3 HK W3 Uf II Nc OS GV GW T9 Uu HB qG Nn Kg Yl
 Xy W0 Br
 SP ME EY V5 IJ CG GP R7 SO MD SM SN MB MC Xo MA LZ AN SL Cq Ib O5 Sq EZ lB gF GH
 UM T8 GU Nk O3 Nl iB SX JJ CF JI QX WV RD WU WX WT QY RB RA QZ
 LQ LV ES N3 O0 ET N7 Xf Sk Xh Xg Sl N9 O1 N6 N5 N4 RH Vl JT JQ Oc RG RF JU JW WZ XA WY AaI RI JV Vm Pz JS Py Vp JR Vo Vk CH Vn F9 Px
 FE O9 RT LD RU FZ NJ NI FY FX GC NO TO NM W7 W8 E8 E7 ST MK FP FQ FD O8 TK MZ b8 ZX FV TJ TI NC NE ZZ b7 ZY AeJ TL ND Yg Th NB Tg Yj NA Yi Yf FU Yh Q3 Tf GD GF GE NN ML MM MJ PH PI Md Hl Bm EC N1 EQ LU N2 Xj
 RP AC LA YZ Wq zP AD Wm Fv Ws KX KY KW VP AF Wr Ch Wp Cg Fx Wo Fw Fu Je KV Oj AE Oh Wn L8 Jf Sa Oi Cf
 yD jP C5 C4 wF xJ Hd xK aX By W5 half
end Go.Dm
