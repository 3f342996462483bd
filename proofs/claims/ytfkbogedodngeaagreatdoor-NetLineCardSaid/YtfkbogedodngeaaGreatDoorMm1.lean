/- A part of the proof. -/
import Derived.Test.YtfkbogedodngeaaGreatDoorMm0
import Derived.ChangeKeysEq
import Derived.Lib.AppendZerosOnto
set_option linter.all false
namespace Go.Dm
section
variable {P:Program} {h h':aA} {c:Ctx} {env:Env} {a:Act} {o:Oper} {r:DV}
theorem wE:∀(k1 k2:List Nat) (xs ys:List DV) (b:Bool),bT (k1++k2) xs ys=some b →
  ∃ b1 b2,bT k1 (xs.take k1.length) (ys.take k1.length)=some b1∧bT k2 (xs.drop k1.length) (ys.drop k1.length)=some b2∧b=(b1 && b2):=by
 intro k1
 induction k1 with
 | nil=>intro k2 xs ys b hh;exact⟨true,b,by simp[bT],by simpa using hh,by simp⟩
 | cons k k1 ih =>
  intro k2 xs ys b hh
  cases xs with
  | nil=>simp[bT]at hh
  | cons x xs =>
   cases ys with
   | nil=>simp[bT]at hh
   | cons y ys =>
    simp only[List.cons_append,bT]at hh
    split at hh
    ·rename_i b0 hb0
     split at hh
     ·rename_i b' Kh
      obtain⟨b1,b2,h1,h2,rfl⟩:=ih k2 xs ys b' Kh
      cases hh
      exact⟨b0 && b1,b2,by simp[bT,hb0,h1],by simpa using h2,by rw[Bool.and_assoc]⟩
     ·cases hh
    ·cases hh
theorem kS:∀(ks:List Nat) (xs ys:List DV) (b:Bool),bT ks xs ys=some b→xs.length=ks.length∧ys.length=ks.length:=by
 intro ks
 induction ks with
 | nil=>intro xs ys b hh;cases xs<;>cases ys<;>simp_all[bT]
 | cons k ks ih =>
  intro xs ys b hh
  cases xs with
  | nil=>simp[bT]at hh
  | cons x xs =>
   cases ys with
   | nil=>simp[bT]at hh
   | cons y ys =>
    simp only[bT]at hh
    split at hh
    ·split at hh
     ·rename_i b' Kh
      have:=ih xs ys b' Kh
      simp[this.1,this.2]
     ·cases hh
    ·cases hh
def dO(P:Program)(t:TypeId):Bool:=match P.underlying t with|some (.struct _)|some (.array _ _)=>true|_=>false
def qE(P:Program)(c:Ctx)(t:TypeId)(cs:List DV)(x:Value):Prop :=
 if dO P t then ∃ vs:List Value,x=.agg vs.toArray∧VRs c cs vs else ∃ d,cs=[d]∧VR c d x
def EqF(P:Program)(dd:Nat)(t:TypeId)(ks:List Nat):Prop :=
 ∀(c:Ctx) (cs ds:List DV) (x y:Value) (b:Bool) (w:World),qE P c t cs x→qE P c t ds y→bT ks cs ds=some b→(Op.equalIn dd t x y).run P w=.ok b w
theorem vS:∀{d:Nat} {t:TypeId} {ks:List Nat},flatK P d t=some ks→(∃ i,P.info? t=some i∧i.size=ks.length)∧0<ks.length
 | 0,t,ks,hk=>by simp[flatK]at hk
 | d+1,t,ks,hk=>by
  unfold flatK at hk
  split at hk
  all_goals first|cases hk|skip
  ·rename_i i _ hi;split at hk<;>cases hk;exact⟨⟨i,hi,by assumption⟩,by simp⟩
  ·rename_i i _ hi;split at hk<;>cases hk;exact⟨⟨i,hi,by assumption⟩,by simp⟩
  ·rename_i i _ hi;split at hk<;>cases hk;exact⟨⟨i,hi,by assumption⟩,by simp⟩
  ·rename_i fs i _ hi
   split at hk
   ·split at hk
    ·split at hk
     ·rename_i hs;cases hk;exact⟨⟨i,hi,hs.1⟩,hs.2⟩
     ·cases hk
    ·cases hk
   ·cases hk
  ·rename_i n e i _ hi
   split at hk
   ·split at hk
    ·split at hk
     ·rename_i ks' hks' hs
      cases hk
      have:=(vS hks').2
      refine⟨⟨i,hi,?_⟩,?_⟩
      ·rw[hs.1]
       simp[List.length_flatten]
      ·simp[List.length_flatten,Nat.mul_pos hs.2 this]
     ·cases hk
    ·cases hk
   ·cases hk
theorem yX{d:Nat}{t:TypeId}{ks:List Nat}(hk:flatK P d t=some ks):∃ i,P.info? t=some i∧i.size=ks.length:=(vS hk).1
theorem Mn{d:Nat}{t:TypeId}{ks:List Nat}(hk:flatK P d t=some ks):0<ks.length:=(vS hk).2
theorem Z3{t:TypeId}{i:TypeInfo}(_hi:P.info? t=some i){w:World}(hu:∃ d,P.underlying t=some d):(isAgg t).run P w=.ok (dO P t) w:=by
 obtain⟨d,hu⟩:=hu
 simp only[isAgg,Sem.run_bind,run_underlying hu,Result.andThen_ok,dO,hu]
 cases d<;>rfl
theorem CD{d:Nat}{t:TypeId}{ks:List Nat}(hk:flatK P d t=some ks):∃ d,P.underlying t=some d:=by
 cases d with
 | zero=>simp[flatK]at hk
 | succ d =>
  unfold flatK at hk
  split at hk
  all_goals first|cases hk|exact⟨_,by assumption⟩
theorem I8{d:Nat}{t:TypeId}{ks:List Nat}(hk:flatK P d t=some ks)(ha:dO P t=false):ks.length=1:=by
 cases d with
 | zero=>simp[flatK]at hk
 | succ d =>
  unfold flatK at hk
  split at hk
  all_goals first|cases hk|skip
  ·split at hk<;>cases hk;rfl
  ·split at hk<;>cases hk;rfl
  ·split at hk<;>cases hk;rfl
  ·rename_i hu _;simp[dO,hu]at ha
  ·rename_i hu _;simp[dO,hu]at ha
theorem pF{d:Nat}{t:TypeId}{ks:List Nat}(hk:flatK P d t=some ks){cs:List DV}{vs:List Value}(hv:VRs c cs vs){off:Nat}(cD:off+ks.length≤cs.length)(w:World) :
  ∃ x,(part t vs.toArray off).run P w=.ok x w∧qE P c t ((cs.drop off).take ks.length) x:=by
 obtain⟨i,hi,dX⟩:=yX hk
 have PS:=Z3 hi (w:=w) (CD hk)
 have hl:=hv.1
 unfold qE
 cases hA:dO P t
 ·have h1:=I8 hk hA
  rw[hA]at PS
  have aY:off<cs.length:=by omega
  have qH:off<vs.length:=by omega
  refine⟨vs[off],by simp[part,PS,qH],?_⟩
  simp only[Bool.false_eq_true,if_false]
  refine⟨cs[off],?_,hv.2 off aY qH⟩
  rw[h1,List.take_one,List.head?_drop,List.getElem?_eq_getElem aY]
  rfl
 ·rw[hA]at PS
  refine⟨.agg (vs.toArray.extract off (off+i.size)),by simp[part,PS,sizeOf,typeInfo,hi],?_⟩
  simp only[if_true]
  refine⟨(vs.drop off).take ks.length,?_,by simp[hl],fun j h1 h2=>?_⟩
  ·rw[List.extract_toArray,List.extract_eq_take_drop,dX]
   congr 2
   simp
  ·simp only[List.getElem_take,List.getElem_drop]
   exact hv.2 _ _ _
theorem yC(dd:Nat){d:Nat}{cs ds:List DV}{vs us:List Value}(hv:VRs c cs vs)(hu:VRs c ds us)(w:World):∀(fs:List Field) (off:Nat) (ks:List Nat) (b:Bool),
  (∀f∈fs,∀k,flatK P d f.type=some k→EqF P dd f.type k)→yY (flatK P d) fs off=some ks→bT ks (cs.drop off) (ds.drop off)=some b →
  (Op.eqFields dd vs.toArray us.toArray fs).run P w=.ok b w
 | [],off,ks,b,_,hg,he=>by
  simp only[yY]at hg
  cases hg
  have:=kS _ _ _ _ he
  cases Ff:cs.drop off<;>cases Dx:ds.drop off<;>rw[Ff,Dx]at he<;>simp[bT]at he
  subst he
  simp[Op.eqFields]
 | f::fs,off,ks,b,iD,hg,he=>by
  simp only[yY]at hg
  split at hg
  ·rename_i bS
   split at hg
   ·rename_i k1 LP
    split at hg
    ·rename_i k2 Jh
     cases hg
     obtain⟨b1,b2,e1,e2,rfl⟩:=wE _ _ _ _ _ he
     have cC:=kS _ _ _ _ e1
     simp only[List.length_take,List.length_drop]at cC
     have xO:=Mn LP
     obtain⟨x,px,rx⟩:=pF (P:=P) LP hv (off:=off) (by omega) w
     obtain⟨y,py,ry⟩:=pF (P:=P) LP hu (off:=off) (by omega) w
     have hr:=iD f (by simp) k1 LP c _ _ x y b1 w rx ry e1
     have ih:=yC dd hv hu w fs (off+k1.length) k2 b2 (fun g hgm=>iD g (by simp[hgm])) Jh (by rw[←List.drop_drop,←List.drop_drop];exact e2)
     simp only[Op.eqFields,bS.1,ne_eq,not_false_eq_true,if_true,Sem.run_bind,bS.2,px,py,hr,Result.andThen_ok]
     cases b1
     ·simp
     ·simpa using ih
    ·cases hg
   ·cases hg
  ·cases hg
theorem Bh(dd:Nat){d:Nat}{e:TypeId}{ks:List Nat}(hk:flatK P d e=some ks)(IH:EqF P dd e ks){cs ds:List DV}{vs us:List Value}(hv:VRs c cs vs)(hu:VRs c ds us)(w:World):∀(n i:Nat) (b:Bool),
  bT (List.replicate n ks).flatten (cs.drop (i*ks.length)) (ds.drop (i*ks.length))=some b→(Op.eqItems dd e ks.length vs.toArray us.toArray (List.range' i n)).run P w=.ok b w
 | 0,i,b,he=>by
  have:=kS _ _ _ _ he
  simp only[List.replicate_zero,List.flatten_nil]at he
  cases Ff:cs.drop (i*ks.length)<;>cases Dx:ds.drop (i*ks.length)<;>rw[Ff,Dx]at he<;>simp[bT]at he
  subst he
  simp[Op.eqItems]
 | n+1,i,b,he=>by
  simp only[List.replicate_succ,List.flatten_cons]at he
  obtain⟨b1,b2,e1,e2,rfl⟩:=wE _ _ _ _ _ he
  have cC:=kS _ _ _ _ e1
  simp only[List.length_take,List.length_drop]at cC
  have xO:=Mn hk
  obtain⟨x,px,rx⟩:=pF (P:=P) hk hv (off:=i*ks.length) (by omega) w
  obtain⟨y,py,ry⟩:=pF (P:=P) hk hu (off:=i*ks.length) (by omega) w
  have hr:=IH c _ _ x y b1 w rx ry e1
  have ih:=Bh dd hk IH hv hu w n (i+1) b2 (by rw[Nat.add_mul,Nat.one_mul,←List.drop_drop,←List.drop_drop];exact e2)
  simp only[List.range'_succ,Op.eqItems,Sem.run_bind,px,py,hr,Result.andThen_ok]
  cases b1
  ·simp
  ·simpa using ih
theorem Ic:∀(m d:Nat) (t:TypeId) (ks:List Nat),flatK P m t=some ks→EqF P (d+m) t ks
 | 0,d,t,ks,hk=>by simp[flatK]at hk
 | m+1,d,t,ks,hk=>by
  intro c cs ds x y b w hx hy he
  have Hm:=hk
  unfold flatK at hk
  split at hk
  all_goals first|cases hk|skip
  ·rename_i i hu hi
   split at hk<;>cases hk
   simp only[qE,dO,hu,Bool.false_eq_true,if_false]at hx hy
   obtain⟨dx,rfl,vx⟩:=hx
   obtain⟨dy,rfl,vy⟩:=hy
   cases vx<;>cases vy<;>simp[bT,fH]at he
   subst he
   exact run_equalIn_bool' w (d+m) t _ _ hu
  ·rename_i q i hu hi
   split at hk<;>cases hk
   simp only[qE,dO,hu,Bool.false_eq_true,if_false]at hx hy
   obtain⟨dx,rfl,vx⟩:=hx
   obtain⟨dy,rfl,vy⟩:=hy
   cases vx<;>cases vy<;>simp[bT,fH]at he
   rename_i k1 n1 k2 n2
   by_cases uN:k1=k2
   ·subst uN
    simp at he
    subst he
    exact run_equalIn_int w (d+m) t _ _ _ _ hu
   ·simp[uN]at he
  ·rename_i i hu hi
   split at hk<;>cases hk
   simp only[qE,dO,hu,Bool.false_eq_true,if_false]at hx hy
   obtain⟨dx,rfl,vx⟩:=hx
   obtain⟨dy,rfl,vy⟩:=hy
   cases vx<;>cases vy<;>simp[bT,fH]at he
   subst he
   rw[show d+(m+1)=(d+m)+1 from rfl,run_equalIn_string w (d+m) t _ _ hu]
   rw[ByteArray.toList_eq,ByteArray.toList_eq]
  ·rename_i fs i hu hi
   split at hk
   ·rename_i bS
    split at hk
    ·rename_i kk uN
     split at hk
     ·cases hk
      simp only[qE,dO,hu,if_true]at hx hy
      obtain⟨vs,rfl,hv⟩:=hx
      obtain⟨us,rfl,huu⟩:=hy
      have hfs:P.fieldsOf t=fs:=by simp[Program.fieldsOf,hu]
      rw[show d+(m+1)=(d+m)+1 from rfl,run_equalIn_struct w (d+m) t _ _ (by rw[hfs];exact hu) bS.1,hfs]
      exact yC (d+m) hv huu w fs.toList 0 _ b (fun f _ k hf=>Ic m d f.type k hf) uN (by simpa using he)
     ·cases hk
    ·cases hk
   ·cases hk
  ·rename_i n e i hu hi
   split at hk
   ·split at hk
    ·rename_i kk uN
     split at hk
     ·cases hk
      simp only[qE,dO,hu,if_true]at hx hy
      obtain⟨vs,rfl,hv⟩:=hx
      obtain⟨us,rfl,huu⟩:=hy
      obtain⟨ie,RR,hse⟩:=yX uN
      rw[show d+(m+1)=(d+m)+1 from rfl,run_equalIn_array w (d+m) _ _ hu RR]
      have hce:P.cellsOf e=kk.length:=by simp[Program.cellsOf,RR,hse]
      rw[hce,List.range_eq_range']
      exact Bh (d+m) uN (Ic m d e kk uN) hv huu w n 0 b (by simpa using he)
     ·cases hk
    ·cases hk
   ·cases hk
theorem Vq{d:Nat}{t:TypeId}{ks:List Nat}(hk:flatK P d t=some ks)(ha:dO P t=true):P.eqGuardType P.depth t=false:=by
 cases d with
 | zero=>simp[flatK]at hk
 | succ d =>
  unfold flatK at hk
  split at hk
  all_goals first|cases hk|skip
  ·rename_i hu _;simp[dO,hu]at ha
  ·rename_i hu _;simp[dO,hu]at ha
  ·rename_i hu _;simp[dO,hu]at ha
  ·split at hk
   ·rename_i bS;exact bS.2
   ·cases hk
  ·split at hk
   ·assumption
   ·cases hk
theorem zB{t : TypeId}{q : EqT}(hq : eqT P t = some q){dx dy : DV}{b : Bool}(he : eY q dx dy = some b){x y : Value}(hx : VR c dx x)(hy : VR c dy y)(w : World) : (Op.equal t x y).run P w = .ok b w := by
  unfold eqT at hq
  split at hq
  · rename_i hu; cases hq
    cases hx <;> cases hy <;> simp[eY, fH]at he
    subst he
    simpa[Op.equal, Op.maxDepth]using run_equalIn_bool' w 9999 t _ _ hu
  · rename_i k hu; cases hq
    cases hx <;> cases hy <;> simp[eY, fH]at he
    obtain⟨rfl, rfl⟩ := he
    simpa[Op.equal, Op.maxDepth]using run_equalIn_int w 9999 t _ _ _ _ hu
  · rename_i hu; cases hq
    cases hx <;> cases hy <;> simp[eY, fH]at he
    subst he
    rename_i s1 s2
    have := run_equalIn_string (P := P) w 9999 t ⟨s1.toArray⟩ ⟨s2.toArray⟩ hu
    rw[ByteArray.toList_eq, ByteArray.toList_eq]at this
    simpa[Op.equal, Op.maxDepth]using this
  all_goals first
    | (cases hq; done)
    | (rename_i hu
       simp only[Option.map_eq_some_iff]at hq
       obtain⟨ks, hks, rfl⟩ := hq
       unfold eY at he
       split at he <;> first | (cases he; done) | skip
       all_goals first
         | (exfalso; simp_all; done)
         | (rename_i RV
            simp only[EqT.agg.injEq]at RV
            subst RV
            obtain⟨vs, rfl, hl, h1, hv⟩ := hx.agg_inv
            obtain⟨us, rfl, G2, JL, hv'⟩ := hy.agg_inv
            have := Ic (P := P) 20 9980 t _ hks c _ _ (.agg vs.toArray) (.agg us.toArray) b w (by simp only[qE, dO, hu, if_true]; exact⟨vs, rfl, hl, hv⟩) (by simp only[qE, dO, hu, if_true]; exact⟨us, rfl, G2, hv'⟩) he
            simpa[Op.equal, Op.maxDepth]using this))
theorem JT{t : TypeId}{neq : Bool}{ks : List Nat}{dx dy : DV}{b : Bool}(hg : P.eqGuardType P.depth t = false)(he : eY (.agg ks) dx dy = some b){vx vy : Value}(hx : VR c dx vx)(hy : VR c dy vy){x y : Operand}(w : World)(h1 : (Op.equal t vx vy).run P w = .ok b w) :
    (eqGuard (if neq then .neq else .eql) t x y vx vy).run P w = .ok () w ∧ (binOp (if neq then .neq else .eql) t vx vy).run P w = .ok (.bool (if neq then !b else b)) w := by
  unfold eY at he
  split at he <;> first | (cases he; done) | skip
  all_goals first
    | (exfalso; simp_all; done)
    | (obtain⟨vs, rfl, hl, JL, hv⟩ := hx.agg_inv
       obtain⟨us, rfl, G2, h1'', hv'⟩ := hy.agg_inv
       exact⟨run_eqGuard_agg w _ t x y _ _ hg, by cases neq <;> simp[binOp, h1]⟩)
theorem P2{neq:Bool}{t u:TypeId}{ks:List Nat}{x y:Operand}{x' y':Opd}(ho:o.op=.binOp (if neq then .neq else .eql) t x y u)(PS:dO P t=true)(hk:flatK P 20 t=some ks)(hx:opd x=some x')(hy:opd y=some y')
  (_hR:Rel h c) (hE:bY c env a) (hs:aC h env (.eqa neq ks x' y')=some (r,h')):aX P h c o a h' r:=by
 have vx:=bD hx hE
 have vy:=bD hy hE
 simp only[aC]at hs
 split at hs
 ·rename_i b hb
  simp only[Option.some.injEq,Prod.mk.injEq]at hs
  obtain⟨rfl,rfl⟩:=hs
  have hq:eqT P t=some (.agg ks):=by
   unfold dO at PS
   unfold eqT
   split at PS
   ·rename_i hu;simp[hu,hk]
   ·rename_i hu;simp[hu,hk]
   ·cases PS
  have h1:=zB (P:=P) hq hb vx vy c.w
  obtain⟨g1,g2⟩:=JT (P:=P) (neq:=neq) (x:=x) (y:=y) (Vq hk PS) hb vx vy c.w h1
  exact aX.value (.bool (if neq then !b else b)) (by simp[execOp,ho,g1,g2]) (.bool _)
 ·cases hs
end
end Go.Dm
/-
Part 8 of "Dm": operations that make memory, or write it.
-/
namespace Go.Dm
section
variable {P:Program} {h h':aA} {c:Ctx} {env:Env} {a:Act} {o:Oper} {r:DV}
theorem dM{n:Nat}{d:DV}{v:Value}(hs:aQ n d=true)(hv:VR c d v) :
  (aF n d).length=n∧v.cells.size=n∧∀j (h1:j<(aF n d).length) (h2:j<v.cells.size),VR c (aF n d)[j] v.cells[j]∧(v.cells[j]).oneCell'=true:=by
 have single:d.one=true→d≠.unk→n=1→(aF n d=[d])→v.cells=#[v]→(aF n d).length=n∧v.cells.size=n∧∀j (h1:j<(aF n d).length) (h2:j<v.cells.size),VR c (aF n d)[j] v.cells[j]∧(v.cells[j]).oneCell'=true:=by
  intro h1 h2 h3 h4 h5
  subst h3
  refine⟨by rw[h4];rfl,by rw[h5];rfl,fun j a1 a2=>?_⟩
  have e:j=0:=by rw[h4]at a1;simpa using a1
  subst e
  simp only[h4,h5,List.getElem_cons_zero]
  exact⟨hv,hv.one h2 h1⟩
 cases hv
 case unk=>simp[aQ]at hs
 case tup=>simp[aQ]at hs
 case tok=>simp[aQ]at hs
 case agg ds vs hl h1 xB =>
  simp only[aQ,beq_iff_eq]at hs
  refine⟨hs,by simp[Value.cells];omega,fun j a1 a2=>?_⟩
  simp only[aF]at a1
  simp only[Value.cells,List.size_toArray]at a2
  simp only[aF,Value.cells,List.getElem_toArray]
  exact⟨xB j a1 a2,h1 j a2⟩
 all_goals
  simp only[aQ,beq_iff_eq]at hs
  exact single rfl (by simp) hs rfl rfl
theorem qP{xs:List DV}{sz m:Nat}{cur:Array Value}(hE:gJ c xs sz cur 0)(dX:0<sz)(hs:cur.size=m*sz)(hm:xs.length=m):lW cur:=by
 intro q v hq
 have aY:=(Array.getElem?_eq_some_iff.1 hq).1
 have hi:q / sz<xs.length:=by rw[hm];exact Nat.div_lt_of_lt_mul (by rw[Nat.mul_comm,←hs];exact aY)
 obtain⟨w1,w2⟩:=hE (q / sz) hi
 obtain⟨u,b1,b2,_⟩:=w2 (q % sz) (by rw[w1];exact Nat.mod_lt _ dX)
 have xO:0+q / sz*sz+q % sz=q:=by
  have:=Nat.div_add_mod q sz
  rw[Nat.mul_comm]at this
  omega
 rw[xO,hq]at b1
 cases b1
 exact b2
theorem Ez(hR:Rel h c)(w':World){cur:Array Value}{ety sz m:Nat}{xs:List DV}{cap:Option Nat}(hw:w'.heap=c.w.heap.push (.cells cur ety (0,0)))(dX:0<sz)(hcur:cur.size=m*sz)
  (hx:xs.length≤m) (gZ:∀k,cap=some k→k=m∧xs.length=m) (yT:lW cur) (nR:gJ c xs sz cur 0) (hq:U9 c.w w':=by first|exact⟨rfl,rfl,rfl,Nat.le_refl _⟩|exact⟨rfl,rfl,rfl,Nat.le_succ _⟩) :
  ∃ ρ',Rel (h.push (.arr ety sz xs cap)) (c.next w' ρ' (h.push (.arr ety sz xs cap)))∧bI c (c.next w' ρ' (h.push (.arr ety sz xs cap)))∧ρ' h.n=some (c.w.heap.size,0)∧w'.shape? c.w.heap.size=some (ety,m*sz):=by
 have Qb:w'.heap[c.w.heap.size]?=some (.cells cur ety (0,0)):=by rw[hw];simp
 refine⟨fun i=>if i=h.n then some (c.w.heap.size,0)else c.ρ i,?_⟩
 have key:=hR.push (.arr ety sz xs cap) w' c.w.heap.size 0 (Nat.le_refl _) (by rw[hw];simp) (fun k hk=>by rw[hw,Array.getElem?_push];simp;omega) (.push hw rfl hq.1 hq.2.1 hq.2.2.1 hq.2.2.2) (fun cD=>by
  refine⟨c.w.heap.size,0,cur,m,by simp[Ctx.next],Qb,dX,by omega,hx,gZ,yT,fun i hi=>⟨(nR i hi).1,fun j hj=>?_⟩⟩
  obtain⟨v,a1,a2,a3⟩:=(nR i hi).2 j hj
  exact⟨v,a1,a2,a3.mono cD⟩)
 exact⟨key.1,key.2,by simp,by simp[World.shape?,Qb,hcur]⟩
theorem zC{d:DV}{v:Value}{sz:Nat}(hs:aQ sz d=true)(hv:VR c d v):gJ c [d] sz v.cells 0:=by
 obtain⟨h1,h2,h3⟩:=dM hs hv
 intro i hi
 have e:i=0:=by simpa using hi
 subst e
 simp only[List.getElem_cons_zero]
 refine⟨h1,fun j hj=>⟨v.cells[j]'(by omega),by simp,(h3 j hj (by omega)).2,(h3 j hj (by omega)).1⟩⟩
theorem Ts(hR:Rel h c)(w':World){d:DV}{v:Value}{ety sz:Nat}(hw:w'.heap=c.w.heap.push (.cells v.cells ety (0,0)))(dX:0<sz)(hs:aQ sz d=true)(hv:VR c d v)(hq:U9 c.w w':=by first|exact⟨rfl,rfl,rfl,Nat.le_refl _⟩|exact⟨rfl,rfl,rfl,Nat.le_succ _⟩) :
  jS h c (h.push (.arr ety sz [d] (some 1))) w' (.ptr h.n sz 0 0) (.pointer (some ⟨c.w.heap.size,0,none⟩)):=by
 obtain⟨_,h2,_⟩:=dM hs hv
 obtain⟨ρ',k1,k2,k3,k4⟩:=Ez hR w' (m:=1) (cap:=some 1) hw dX (by omega) (xs:=[d]) (by simp) (fun k hk=>by cases hk;simp) (qP (m:=1) (zC hs hv) dX (by omega) rfl) (zC hs hv) hq
 refine⟨ρ',k1,k2,?_⟩
 have:=VR.ptr (c:=c.next w' ρ' (h.push (.arr ety sz [d] (some 1)))) (id:=h.n) (sz:=sz) (idx:=0) (off:=0) (b:=c.w.heap.size) (base:=0) k3
 simpa using this
theorem eR{e:TypeId}{sz bytes:Nat}{z:DV}(he:dT P e=some (sz,bytes,z)):∃ i z0,P.info? e=some i∧i.size=sz∧i.bytes=bytes∧i.zero=some z0∧Da z0=some z∧0<sz∧aQ sz z=true:=by
 unfold dT at he
 split at he
 ·rename_i i hi
  split at he
  ·rename_i z' hz
   split at he
   ·rename_i hc
    cases he
    simp only[Option.bind_eq_some_iff]at hz
    obtain⟨z0,h1,h2⟩:=hz
    exact⟨i,z0,hi,rfl,rfl,h1,h2,hc.1,hc.2⟩
   ·cases he
  ·cases he
 ·cases he
theorem NL{e:TypeId}{sz bytes:Nat}{z:DV}(ho:o.op=.alloc e)(he:dT P e=some (sz,bytes,z))(hR:Rel h c)(_hE:bY c env a)(hs:aC h env (.alloc e sz z)=some (r,h')):fE P h c o a h' r:=by
 simp only[aC,Option.some.injEq,Prod.mk.injEq]at hs
 obtain⟨rfl,rfl⟩:=hs
 obtain⟨i,z0,hi,e1,e2,hz,zM,dX,cS⟩:=eR he
 refine⟨.value (.pointer (some ⟨c.w.heap.size,0,none⟩)),_,{c.w with heap:=c.w.heap.push (.cells z0.cells e)},?_,.inl rfl,Ts hR _ rfl dX cS (eD zM c)⟩
 simp[execOp,ho,Instr.alloc,zeroValue,typeInfo,hi,hz,newVar,newRow]
theorem k8{e:TypeId}{sz bytes:Nat}{z:DV}{x:Operand}{x':Opd}(ho:o.op=.box e x)(he:dT P e=some (sz,bytes,z))(hx:opd x=some x')(hR:Rel h c)(hE:bY c env a)
  (hs:aC h env (.box e sz x')=some (r,h')):fE P h c o a h' r:=by
 have vx:=bD hx hE
 simp only[aC]at hs
 split at hs
 ·rename_i cS
  simp only[Option.some.injEq,Prod.mk.injEq]at hs
  obtain⟨rfl,rfl⟩:=hs
  obtain⟨i,z0,hi,e1,e2,hz,zM,dX,_⟩:=eR he
  refine⟨.value (.pointer (some ⟨c.w.heap.size,0,none⟩)),_,{c.w with heap:=c.w.heap.push (.cells (a.eval x).cells e)},?_,.inl rfl,Ts hR _ rfl dX cS vx⟩
  simp[execOp,ho,Instr.box,newVar,newRow]
 ·cases hs
def spl(cur:Array Value)(p:Nat)(vs:List Value):Array Value:=(cur.toList.take p++vs++cur.toList.drop (p+vs.length)).toArray
theorem pL{cur:Array Value}{p:Nat}{vs:List Value}(cD:p+vs.length≤cur.size):(spl cur p vs).size=cur.size:=by
 simp[spl];omega
theorem oU{cur:Array Value}{p:Nat}{vs:List Value}(cD:p+vs.length≤cur.size)(q:Nat) :
  (spl cur p vs)[q]?=if q<p then cur[q]? else if q<p+vs.length then vs[q-p]? else cur[q]?:=by
 have hl:(cur.toList.take p).length=p:=by simp;omega
 simp only[spl,List.getElem?_toArray,List.append_assoc]
 rw[List.getElem?_append,hl]
 split
 ·rename_i hq;rw[List.getElem?_take,if_pos hq,Array.getElem?_toList]
 ·rw[List.getElem?_append]
  split
  ·rw[if_pos (by omega)]
  ·rw[if_neg (by omega),List.getElem?_drop,Array.getElem?_toList]
   congr 1
   omega
theorem Gw{cur:Array Value}{p:Nat}{vs:List Value}(h1:lW cur)(hp:p+vs.length≤cur.size)(JH:∀v∈vs,v.oneCell'=true):lW (spl cur p vs):=by
 intro q v hq
 rw[oU hp]at hq
 split at hq
 ·exact h1 q v hq
 ·split at hq
  ·exact JH v (List.mem_of_getElem? hq)
  ·exact h1 q v hq
theorem Rel.write{ety sz:Nat}{xs:List DV}{cap:Option Nat}{id b base m:Nat}{cur:Array Value}(hR:Rel h c)(hg:h.get id=some (.arr ety sz xs cap))(hρ:c.ρ id=some (b,base))(g1:c.w.heap[b]?=some (.cells cur ety (0,0)))(dX:0<sz)
  (g3:cur.size=base+m*sz) (xs':List DV) (hl:xs'.length=xs.length) (hx:xs.length≤m) (gZ:∀k,cap=some k→k=m∧xs.length=m) (p:Nat) (vs:List Value) (hp:p+vs.length≤cur.size) (JH:∀v∈vs,v.oneCell'=true)
  (nR:gJ c xs' sz (spl cur p vs) base):Rel (h.set id (.arr ety sz xs' cap)) (c.next (c.w.setRow b (spl cur p vs)) c.ρ (h.set id (.arr ety sz xs' cap)))∧bI c (c.next (c.w.setRow b (spl cur p vs)) c.ρ (h.set id (.arr ety sz xs' cap))):=by
 refine hR.set (.arr ety sz xs' cap) hg rfl rfl hρ _ (by simp) (fun k hk=>setRow_other _ _ _ _ hk) (fun e n hs=>?_) (.at g1 (setRow_heap c.w b cur _ ety (0,0) g1) (fun k hk=>setRow_other _ _ _ _ hk) rfl rfl rfl rfl) (fun cD=>?_)
 ·rw[dN g1]at hs
  cases hs
  rw[dN (setRow_heap c.w b cur _ ety (0,0) g1),pL hp]
 ·refine⟨b,base,spl cur p vs,m,hρ,setRow_heap c.w b cur _ ety (0,0) g1,dX,by rw[pL hp];exact g3,by omega,fun k hk=>by rw[hl];exact gZ k hk,Gw (hR.oneRow hg hρ g1) hp JH,fun i hi=>⟨(nR i hi).1,fun j hj=>?_⟩⟩
  obtain⟨v,a1,a2,a3⟩:=(nR i hi).2 j hj
  exact⟨v,a1,a2,a3.mono cD⟩
theorem iS{b p:Nat}{ety:TypeId}{cur:Array Value}{w:World}(g1:w.heap[b]?=some (.cells cur ety (0,0)))(vs:List Value)(hp:p+vs.length≤cur.size)(h1:∀v∈vs,v.oneCell'=true) :
  (storeCells ⟨b,p,none⟩ vs).run P w=.ok () (w.setRow b (spl cur p vs)):=by
 have:=run_storeCells_at P b p ety vs 0 cur w g1 (by simpa using hp) h1
 simpa[spl]using this
theorem kM{i k sz j:Nat}(BW:i<k)(hj:j<sz):i*sz+j<k*sz:=by
 have:(i+1)*sz≤k*sz:=Nat.mul_le_mul_right _ BW
 rw[Nat.add_mul]at this
 omega
def dG(c:Ctx)(cur:Array Value)(p:Nat)(L:List DV):Prop:=∀(j:Nat) (d:DV),L[j]?=some d→∃ v,cur[p+j]?=some v∧v.oneCell'=true∧VR c d v
theorem jB{xs:List DV}{sz base:Nat}{cur:Array Value}:gJ c xs sz cur base↔∀(i:Nat) (d:DV),xs[i]?=some d→(aF sz d).length=sz∧dG c cur (base+i*sz) (aF sz d):=by
 constructor
 ·intro hh i d hd
  obtain⟨hi,rfl⟩:=List.getElem?_eq_some_iff.1 hd
  refine⟨(hh i hi).1,fun j e he=>?_⟩
  obtain⟨hj,rfl⟩:=List.getElem?_eq_some_iff.1 he
  exact(hh i hi).2 j hj
 ·intro hh i hi
  obtain⟨h1,h2⟩:=hh i xs[i] (List.getElem?_eq_getElem hi)
  exact⟨h1,fun j hj=>h2 j _ (List.getElem?_eq_getElem hj)⟩
theorem gJ.mono'{c':Ctx}{xs:List DV}{sz base:Nat}{cur:Array Value}(hE:gJ c xs sz cur base)(cD:bI c c'):gJ c' xs sz cur base:=fun i hi =>
 ⟨(hE i hi).1,fun j hj=>let ⟨v,a1,a2,a3⟩:=(hE i hi).2 j hj;⟨v,a1,a2,a3.mono cD⟩⟩
theorem dG.append{cur:Array Value}{p:Nat}{L1 L2:List DV}(h1:dG c cur p L1)(h2:dG c cur (p+L1.length) L2):dG c cur p (L1++L2):=by
 intro j d hd
 rw[List.getElem?_append]at hd
 split at hd
 ·exact h1 j d hd
 ·rename_i hj
  obtain⟨v,a1,a2⟩:=h2 _ d hd
  exact⟨v,by rw[←a1];congr 1;omega,a2⟩
theorem dG.take{cur:Array Value}{p:Nat}{L:List DV}(h1:dG c cur p L)(n:Nat):dG c cur p (L.take n):=by
 intro j d hd
 rw[List.getElem?_take]at hd
 split at hd
 ·exact h1 j d hd
 ·cases hd
theorem dG.drop{cur:Array Value}{p:Nat}{L:List DV}(h1:dG c cur p L)(n:Nat):dG c cur (p+n) (L.drop n):=by
 intro j d hd
 rw[List.getElem?_drop]at hd
 obtain⟨v,a1,a2⟩:=h1 _ d hd
 exact⟨v,by rw[←a1];congr 1;omega,a2⟩
theorem dG.other{cur:Array Value}{p q:Nat}{L:List DV}{vs:List Value}(h1:dG c cur q L)(cD:p+vs.length≤cur.size)(hd:q+L.length≤p∨p+vs.length≤q):dG c (spl cur p vs) q L:=by
 intro j d tN
 have hj:=(List.getElem?_eq_some_iff.1 tN).1
 obtain⟨v,a1,a2⟩:=h1 j d tN
 refine⟨v,?_,a2⟩
 rw[oU cD]
 rcases hd with hd|hd
 ·rw[if_pos (by omega)];exact a1
 ·rw[if_neg (by omega),if_neg (by omega)];exact a1
theorem dG.same{cur:Array Value}{p:Nat}{L:List DV}{vs:List Value}(cD:p+vs.length≤cur.size)(hl:L.length≤vs.length)(hv:∀(j:Nat) (d:DV) (v:Value),L[j]?=some d→vs[j]?=some v→v.oneCell'=true∧VR c d v):dG c (spl cur p vs) p L:=by
 intro j d hd
 have hj:=(List.getElem?_eq_some_iff.1 hd).1
 have hjv:j<vs.length:=by omega
 refine⟨vs[j],?_,(hv j d _ hd (List.getElem?_eq_getElem hjv)).1,(hv j d _ hd (List.getElem?_eq_getElem hjv)).2⟩
 rw[oU cD,if_neg (by omega),if_pos (by omega),Nat.add_sub_cancel_left]
 exact List.getElem?_eq_getElem hjv
theorem jT{n:Nat}{d:DV}{v:Value}(hs:aQ n d=true)(hv:VR c d v):(aF n d).length=n∧v.cells.toList.length=n∧(∀u∈v.cells.toList,u.oneCell'=true) ∧
  ∀(j:Nat) (e:DV) (u:Value),(aF n d)[j]?=some e→v.cells.toList[j]?=some u→u.oneCell'=true∧VR c e u:=by
 obtain⟨s1,s2,s3⟩:=dM hs hv
 refine⟨s1,by simp[s2],fun u hu=>?_,fun j e u he hu=>?_⟩
 ·obtain⟨j,hj,hjv⟩:=List.getElem_of_mem hu
  have EB:j<v.cells.size:=by simpa using hj
  have:=(s3 j (by omega) EB).2
  rw[←hjv];simpa using this
 ·obtain⟨h1,rfl⟩:=List.getElem?_eq_some_iff.1 he
  obtain⟨h2,rfl⟩:=List.getElem?_eq_some_iff.1 hu
  have EB:j<v.cells.size:=by simpa using h2
  have:=s3 j h1 EB
  exact⟨by simpa using this.2,by simpa using this.1⟩
theorem NF{t:TypeId}{i:TypeInfo}{x y:Operand}{x' y':Opd}(ho:o.op=.store t x y)(hi:P.info? t=some i)(hx:opd x=some x')(hy:opd y=some y')(hR:Rel h c)(hE:bY c env a)
  (hs:aC h env (.store i.size x' y')=some (r,h')):fE P h c o a h' r:=by
 have vx:=bD hx hE
 have vy:=bD hy hE
 simp only[aC]at hs
 split at hs
 ·rename_i Ki cS
  simp only[Option.some.injEq,Prod.mk.injEq]at hs
  obtain⟨rfl,rfl⟩:=hs
  unfold hU at cS
  split at cS
  ·rename_i id sz idx off hv
   split at cS
   ·rename_i ety dK xs cap hg
    split at cS
    ·rename_i bS
     obtain⟨hss,bJ,hstor,hoff⟩:=bS
     subst hss
     split at cS
     ·rename_i e he
      split at cS
      ·rename_i nR
       cases cS
       rw[hv]at vx
       obtain⟨b,base,dD,hρ⟩:=vx.ptr_inv
       obtain⟨cur,m,g1,g2,g3,g4,g5,g6⟩:=hR.arr hg hρ
       obtain⟨s1,s2,s4,s3⟩:=jT hstor vy
       obtain⟨hidx,Rk⟩:=List.getElem?_eq_some_iff.1 he
       have Cr:idx*sz+sz≤m*sz:=by
        have:(idx+1)*sz≤m*sz:=Nat.mul_le_mul_right _ (by omega)
        rw[Nat.add_mul]at this;omega
       have hp:base+idx*sz+off+(a.eval y).cells.toList.length≤cur.size:=by rw[s2];omega
       have eW:=iS (P:=P) g1 (a.eval y).cells.toList hp s4
       have hturn:aF sz (turn sz off i.size e (y'.eval env))=(aF sz e).take off++aF i.size (y'.eval env)++(aF sz e).drop (off+i.size):=by
        unfold turn
        split
        ·rename_i hc
         obtain⟨e1,e2⟩:=hc
         subst e1
         rw[e2]
         simp[nR]
        ·rfl
       obtain⟨k1,k2⟩:=hR.write hg hρ g1 g2 g3 (xs.set idx (turn sz off i.size e (y'.eval env))) (by simp) g4 g5 (base+idx*sz+off) (a.eval y).cells.toList hp s4 (jB.2 fun k d hk=>by
        rw[List.getElem?_set]at hk
        have g6':=jB.1 g6
        by_cases PH:idx=k
        ·subst PH
         rw[if_pos rfl,if_pos hidx]at hk
         cases hk
         obtain⟨w1,w2⟩:=g6' idx e he
         rw[hturn]
         refine⟨by simp only[List.length_append,List.length_take,List.length_drop,nR,s1];omega,?_⟩
         have l1:((aF sz e).take off).length=off:=by rw[List.length_take,nR];omega
         refine dG.append (dG.append ?_ ?_) ?_
         ·exact(w2.take off).other hp (.inl (by rw[l1];exact Nat.le_refl _))
         ·rw[l1]
          exact dG.same hp (by omega) s3
         ·rw[List.length_append,l1,s1]
          have:=(w2.drop (off+i.size)).other hp (.inr (by rw[s2];omega))
          simpa[Nat.add_assoc]using this
        ·rw[if_neg PH]at hk
         obtain⟨w1,w2⟩:=g6' k d hk
         refine⟨w1,w2.other hp ?_⟩
         rw[w1,s2]
         rcases Nat.lt_or_gt_of_ne PH with aY|hgt
         ·have:idx*sz+(sz-1)<k*sz:=kM aY (by omega)
          right;omega
         ·have:k*sz+(sz-1)<idx*sz:=kM hgt (by omega)
          left;omega)
       refine⟨.skip,undef,_,?_,.inr ⟨rfl,rfl⟩,c.ρ,k1,k2,?_⟩
       ·have s2':(a.eval y).cells.size=i.size:=by simpa using s2
        simp[execOp,ho,dD,Instr.storeAt,Instr.sureAddr,storeVar,sizeOf,typeInfo,hi,s2',eW]
       ·exact .tup (ds:=[]) (vs:=[]) rfl (fun i h1 _=>absurd h1 (by simp))
      ·cases cS
     ·cases cS
    ·cases cS
   ·cases cS
  ·cases cS
 ·cases hs
end
end Go.Dm
/-
Part 9 of "Dm": append, copy, make, slices and structs that are built.
-/
namespace Go.Dm
section
variable {P:Program} {h h':aA} {c:Ctx} {env:Env} {a:Act} {o:Oper} {r:DV}
def iQ(c:Ctx)(sz:Nat)(ys:List DV)(vs:List Value):Prop :=
 vs.length=ys.length*sz∧(∀u∈vs,u.oneCell'=true) ∧
 ∀(i:Nat) (d:DV),ys[i]?=some d→(aF sz d).length=sz∧∀(j:Nat) (e:DV),(aF sz d)[j]?=some e→∃ u,vs[i*sz+j]?=some u∧VR c e u
theorem Cf{sz:Nat}:iQ c sz [] []:=⟨by simp,by simp,by simp⟩
theorem iQ.append{sz:Nat}{ys zs:List DV}{vs us:List Value}(h1:iQ c sz ys vs)(h2:iQ c sz zs us):iQ c sz (ys++zs) (vs++us):=by
 refine⟨by rw[List.length_append,List.length_append,Nat.add_mul,h1.1,h2.1],fun u hu=>(List.mem_append.1 hu).elim (h1.2.1 u) (h2.2.1 u),fun i d hd=>?_⟩
 rw[List.getElem?_append]at hd
 split at hd
 ·rename_i hi
  obtain⟨a1,a2⟩:=h1.2.2 i d hd
  refine⟨a1,fun j e he=>?_⟩
  obtain⟨u,b1,b2⟩:=a2 j e he
  exact⟨u,by rw[List.getElem?_append_left (List.getElem?_eq_some_iff.1 b1).1];exact b1,b2⟩
 ·rename_i hi
  obtain⟨a1,a2⟩:=h2.2.2 _ d hd
  refine⟨a1,fun j e he=>?_⟩
  obtain⟨u,b1,b2⟩:=a2 j e he
  refine⟨u,?_,b2⟩
  have hmul:(i-ys.length)*sz+ys.length*sz=i*sz:=by rw[←Nat.add_mul];congr 1;omega
  rw[List.getElem?_append_right (by rw[h1.1];omega),h1.1]
  rw[←b1];congr 1;omega
theorem iQ.mono{c':Ctx}{sz:Nat}{ys:List DV}{vs:List Value}(h1:iQ c sz ys vs)(cD:bI c c'):iQ c' sz ys vs :=
 ⟨h1.1,h1.2.1,fun i d hd=>⟨(h1.2.2 i d hd).1,fun j e he=>let ⟨u,b1,b2⟩:=(h1.2.2 i d hd).2 j e he;⟨u,b1,b2.mono cD⟩⟩⟩
theorem iQ.toElems{sz:Nat}{ys:List DV}{vs:List Value}(h1:iQ c sz ys vs){cur:Array Value}{base:Nat}(hc:∀(j:Nat) (u:Value),vs[j]?=some u→cur[base+j]?=some u):gJ c ys sz cur base:=by
 rw[jB]
 intro i d hd
 obtain⟨a1,a2⟩:=h1.2.2 i d hd
 refine⟨a1,fun j e he=>?_⟩
 obtain⟨u,b1,b2⟩:=a2 j e he
 exact⟨u,by rw[Nat.add_assoc];exact hc _ _ b1,h1.2.1 u (List.mem_of_getElem? b1),b2⟩
theorem uU{xs:List DV}{sz base m:Nat}{cur:Array Value}(hE:gJ c xs sz cur base)(jW:cur.size=base+m*sz)(off len:Nat)(cD:off+len≤xs.length)(hm:xs.length≤m) :
  iQ c sz ((xs.drop off).take len) ((cur.toList.drop (base+off*sz)).take (len*sz)):=by
 have hb:base+off*sz+len*sz≤cur.size:=by
  have:(off+len)*sz≤m*sz:=Nat.mul_le_mul_right _ (by omega)
  rw[Nat.add_mul]at this;omega
 have hE':=jB.1 hE
 have nQ:∀q u,((cur.toList.drop (base+off*sz)).take (len*sz))[q]?=some u↔q<len*sz∧cur[base+off*sz+q]?=some u:=by
  intro q u
  rw[List.getElem?_take]
  split
  ·rename_i hq;rw[List.getElem?_drop,Array.getElem?_toList];exact⟨fun h=>⟨hq,h⟩,fun h=>h.2⟩
  ·rename_i hq;exact⟨(fun h=>by cases h),(fun h=>absurd h.1 hq)⟩
 refine⟨by rw[List.length_take,List.length_take,List.length_drop,List.length_drop,Array.length_toList,Nat.min_eq_left (by omega),Nat.min_eq_left (by omega)],fun u hu=>?_,fun i d hd=>?_⟩
 ·obtain⟨q,hq⟩:=List.getElem?_of_mem hu
  obtain⟨WI,PE⟩:=(nQ q u).1 hq
  have dX:0<sz:=by
   rcases Nat.eq_zero_or_pos sz with e|e
   ·subst e;simp at WI
   ·exact e
  have hi:q / sz<len:=Nat.div_lt_of_lt_mul (by rw[Nat.mul_comm];exact WI)
  obtain⟨w1,w2⟩:=hE' (off+q / sz) xs[off+q / sz] (List.getElem?_eq_getElem (by omega))
  have aY:q % sz<(aF sz xs[off+q / sz]).length:=by rw[w1];exact Nat.mod_lt _ dX
  obtain⟨v,b1,b2,_⟩:=w2 (q % sz) _ (List.getElem?_eq_getElem aY)
  have xO:base+(off+q / sz)*sz+q % sz=base+off*sz+q:=by
   rw[Nat.add_mul]
   have:=Nat.div_add_mod q sz
   rw[Nat.mul_comm]at this
   omega
  rw[xO,PE]at b1
  cases b1
  exact b2
 ·rw[List.getElem?_take]at hd
  split at hd
  ·rename_i hi
   rw[List.getElem?_drop]at hd
   obtain⟨w1,w2⟩:=hE' (off+i) d hd
   refine⟨w1,fun j e he=>?_⟩
   obtain⟨v,b1,b2,b3⟩:=w2 j e he
   have hj:=(List.getElem?_eq_some_iff.1 he).1
   rw[w1]at hj
   refine⟨v,(nQ _ _).2 ⟨kM hi hj,?_⟩,b3⟩
   rw[←b1];congr 1;rw[Nat.add_mul];omega
  ·cases hd
theorem kR(hR:Rel h c){sz:Nat}{d:DV}{v:Value}{ys:List DV}(he:elems h sz d=some ys)(hv:VR c d v) :
  ∃ ad cap news,v=.slice ad ys.length cap∧ys.length≤cap∧iQ c sz ys news∧(ad=none→ys=[])∧∀adr,ad=some adr→∀(j:Nat) (u:Value),news[j]?=some u→c.w.cell? (adr.add j)=some u:=by
 cases d<;>simp only[elems]at he<;>try (cases he;done)
 case nsl =>
  cases he
  obtain⟨ad,e⟩:=hv.nsl_inv
  exact⟨ad,0,[],e,by simp,Cf,fun _=>rfl,fun _ _ j u hj=>by simp at hj⟩
 case sl id dK off len =>
  split at he
  ·rename_i ety jQ xs cap hg
   split at he
   ·rename_i bS
    obtain⟨e1,e2,cD⟩:=bS
    subst e1;subst e2
    cases he
    obtain⟨b,base,fA,gK,nn,lP,dD,hρ,dV,yU,Ay,Eo⟩:=hv.sl_inv
    obtain⟨cur,mm,g1,g2,g3,g4,g5,g6⟩:=hR.arr hg hρ
    have cC:((xs.drop off).take len).length=len:=by simp;omega
    refine⟨some ⟨b,gK,none⟩,fA,_,by rw[cC];exact dD,by rw[cC];exact Ay,uU g6 g3 off len cD g4,(fun h=>by cases h),fun adr hadr j u hj=>?_⟩
    cases hadr
    rw[List.getElem?_take]at hj
    split at hj
    ·rename_i Ve
     rw[List.getElem?_drop,Array.getElem?_toList]at hj
     have RP:0<len:=by
      rcases Nat.eq_zero_or_pos len with e|e
      ·subst e;simp at Ve
      ·exact e
     have nS:gK=base+off*sz:=Eo.elim (fun e=>e) (fun e=>by omega)
     rw[Addr.add_lit,iG g1,nS]
     exact hj
    ·cases hj
   ·cases he
  ·cases he
 case isl lent dK xs =>
  split at he
  ·rename_i dX
   cases he
   by_cases hnil:ys=[]
   ·subst hnil
    have:∃ ad cap,v=.slice ad 0 cap:=by
     rcases hv.isl_inv with⟨_,ad,cap,dD⟩|⟨b,o',cap,vals,dD,_⟩
     ·exact⟨_,_,dD⟩
     ·exact⟨_,_,dD⟩
    obtain⟨ad,cap,dD⟩:=this
    exact⟨ad,cap,[],dD,by simp,Cf,fun _=>rfl,fun _ _ j u hj=>by simp at hj⟩
   have dX:=dX.resolve_right hnil
   subst dX
   rcases hv.isl_inv with⟨rfl,ad,cap,dD⟩|⟨b,o',cap,vals,dD,gZ,hb,hO,hX,hszs,hc,xB⟩
   ·exact⟨ad,cap,[],dD,by simp,Cf,fun _=>rfl,fun _ _ j u hj=>by simp at hj⟩
   ·refine⟨some ⟨b,o',none⟩,cap,(List.range (ys.length*sz)).map fun q=>vals (q / sz) (q % sz),dD,gZ,⟨by simp,fun u hu=>?_,fun i d hd=>?_⟩,(fun h=>by cases h),fun adr hadr j u hj=>?_⟩
    ·simp only[List.mem_map,List.mem_range]at hu
     obtain⟨q,hq,rfl⟩:=hu
     have hs:0<sz:=Nat.pos_of_ne_zero (fun e=>by subst e;simp at hq)
     exact(hc (q / sz) (q % sz) (Nat.div_lt_of_lt_mul (by rw[Nat.mul_comm];exact hq)) (Nat.mod_lt _ hs)).2
    ·obtain⟨hi,hdd⟩:=List.getElem?_eq_some_iff.1 hd
     subst hdd
     refine⟨hszs i hi,fun j e he=>?_⟩
     obtain⟨hj,Rk⟩:=List.getElem?_eq_some_iff.1 he
     subst Rk
     have uO:=hj
     rw[hszs i hi]at uO
     refine⟨vals i j,?_,(xB i hi j hj).of_still⟩
     rw[List.getElem?_map,List.getElem?_range (kM hi uO)]
     simp only[Option.map_some]
     congr 2
     ·rw[Nat.mul_comm,Nat.mul_add_div (by omega),Nat.div_eq_of_lt uO,Nat.add_zero]
     ·rw[Nat.mul_comm,Nat.mul_add_mod,Nat.mod_eq_of_lt uO]
    ·cases hadr
     rw[List.getElem?_map]at hj
     simp only[Option.map_eq_some_iff]at hj
     obtain⟨q,hq,rfl⟩:=hj
     obtain⟨WI,PE⟩:=List.getElem?_eq_some_iff.1 hq
     simp only[List.length_range]at WI
     simp only[List.getElem_range]at PE
     subst PE
     have hs:0<sz:=Nat.pos_of_ne_zero (fun e=>by subst e;simp at WI)
     have:=(hc (j / sz) (j % sz) (Nat.div_lt_of_lt_mul (by rw[Nat.mul_comm];exact WI)) (Nat.mod_lt _ hs)).1
     rw[Addr.add_lit,←this]
     congr 2
     have:=Nat.div_add_mod j sz
     rw[Nat.mul_comm]at this
     omega
  ·cases he
theorem Ce{sz n cap:Nat}{ad:Option Addr}{news:List Value}(hl:news.length=n*sz)(hn:ad=none→n=0){w w':World}(hw:w'.heap=w.heap)
  (hc:∀adr,ad=some adr→∀(j:Nat) (u:Value),news[j]?=some u→w.cell? (adr.add j)=some u):(Builtin.firstCells sz n (.slice ad n cap)).run P w'=.ok news.toArray w':=by
 cases ad with
 | none =>
  have:=hn rfl
  subst this
  have:news=[]:=List.eq_nil_of_length_eq_zero (by simpa using hl)
  subst this
  rfl
 | some adr =>
  exact run_firstCells_some w' sz n adr n cap news hl (fun j v hj=>by
   have:=hc adr rfl j v hj
   simpa[World.cell?,hw]using this)
theorem Wy{t u ty e e':TypeId}{i:TypeInfo}(ht:P.underlying t=some (.slice e))(hu:P.underlying u=some (.slice e'))(hi:P.info? e=some i){w:World}{b co sLen sCap n cap:Nat}{ad:Option Addr}{cur:Array Value}{ety:TypeId}{news:List Value}
  (g1:w.heap[b]?=some (.cells cur ety (0,0))) (hf:(Builtin.firstCells i.size n (.slice ad n cap)).run P w=.ok news.toArray w) (h1:∀x∈news,x.oneCell'=true) (mC:sLen+n≤sCap) (lK:co+sLen*i.size+news.length≤cur.size) :
  (Builtin.append_ #[t,u] ty #[.slice (some ⟨b,co,none⟩) sLen sCap,.slice ad n cap]).run P w=.ok (.slice (some ⟨b,co,none⟩) (sLen+n) sCap) (w.setRow b (spl cur (co+sLen*i.size) news)):=by
 have cS:=iS (P:=P) g1 news lK h1
 simp[Builtin.append_,run_underlying ht,run_underlying hu,sizeOf,typeInfo,hi,Builtin.lenOf,mC,hf,Addr.add_lit,cS]
theorem Wx{t u ty e e':TypeId}{i:TypeInfo}(ht:P.underlying t=some (.slice e))(hu:P.underlying u=some (.slice e'))(hi:P.info? e=some i){w:World}{base ad:Option Addr}{sLen sCap cap:Nat}(mC:sLen≤sCap) :
  (Builtin.append_ #[t,u] ty #[.slice base sLen sCap,.slice ad 0 cap]).run P w=.ok (.slice base sLen sCap) w:=by
 have hf:(Builtin.firstCells i.size 0 (.slice ad 0 cap)).run P w=.ok #[] w:=by
  cases ad with
  | none=>rfl
  | some adr=>simpa using run_firstCells_some (P:=P) w i.size 0 adr 0 cap [] (by simp) (by simp)
 cases base<;>simp[Builtin.append_,run_underlying ht,run_underlying hu,sizeOf,typeInfo,hi,Builtin.lenOf,mC,hf,storeCells]
theorem Qz{t u ty e e':TypeId}{i:TypeInfo}{z:Value}(ht:P.underlying t=some (.slice e))(hu:P.underlying u=some (.slice e'))(hi:P.info? e=some i)(hz:i.zero=some z){w:World}{base ad:Option Addr}{sLen sCap n cap:Nat}{olds news:List Value}
  (LU:(Builtin.firstCells i.size sLen (.slice base sLen sCap)).run P w.drew=.ok olds.toArray w.drew) (hf:(Builtin.firstCells i.size n (.slice ad n cap)).run P w.drew=.ok news.toArray w.drew)
  (hg:sCap<sLen+n) (h63:sLen+n≤9223372036854775807) (lK:(sLen+n)*i.bytes≤140737488355328) :
  (Builtin.append_ #[t,u] ty #[.slice base sLen sCap,.slice ad n cap]).run P w =
   .ok (.slice (some ⟨w.heap.size,0,none⟩) (sLen+n) (grownCap w (sLen+n) sCap e)) (w.drew.alloc (.cells (olds.toArray++news.toArray++Builtin.zeroCells z.cells (grownCap w (sLen+n) sCap e-(sLen+n))) e)):=by
 have hn:¬(sLen+n≤sCap):=by omega
 have h63':¬(9223372036854775807<((sLen:Int)+(n:Int))):=by omega
 have G9:¬(281474976710656<Builtin.nextslicecap (sLen+n) sCap*i.bytes):=by have:=growslice_fits hg lK;omega
 simp[Builtin.append_,run_underlying ht,run_underlying hu,sizeOf,typeInfo,zeroValue,hi,hz,Builtin.lenOf,hn,h63',G9,Question.forced,hf,LU,newRow,grownCap]
 congr 2
 apply Array.ext'
 simp[List.append_assoc]
theorem cL{z:Array Value}{n:Nat}:(Builtin.zeroCells z n).size=n*z.size:=by simp[Builtin.zeroCells]
theorem rE{z:Array Value}{n q:Nat}(hz:0<z.size)(hq:q<n*z.size):(Builtin.zeroCells z n)[q]?=some (z[q % z.size]'(Nat.mod_lt _ hz)):=by
 simp only[Builtin.zeroCells]
 rw[Array.getElem?_map,Array.getElem?_range]
 simp only[hq,if_true,Option.map_some]
 congr 1
 exact getElem!_pos z _ (Nat.mod_lt _ hz)
theorem tH{z:Array Value}{n:Nat}(hz:∀j (hj:j<z.size),(z[j]).oneCell'=true):lW (Builtin.zeroCells z n):=by
 intro q v hq
 have aY:=(Array.getElem?_eq_some_iff.1 hq).1
 rw[cL]at aY
 have xO:0<z.size:=Nat.pos_of_ne_zero fun e=>by rw[e]at aY;omega
 rw[rE xO aY]at hq
 cases hq
 exact hz _ _
theorem yP(hR:Rel h c){ety sz need ncap:Nat}{ys:List DV}{vs:List Value}{zs:Array Value}{w':World}(hw:w'.heap=c.w.heap.push (.cells (vs.toArray++zs) ety (0,0)))(dX:0<sz)(eW:iQ c sz ys vs)(hneed:ys.length=need)(gZ:need≤ncap)(hzs:zs.size=(ncap-need)*sz)(WA:lW zs)(hq:U9 c.w w':=by first|exact⟨rfl,rfl,rfl,Nat.le_refl _⟩|exact⟨rfl,rfl,rfl,Nat.le_succ _⟩) :
  jS h c (h.push (.arr ety sz ys none)) w' (.sl h.n sz 0 need) (.slice (some ⟨c.w.heap.size,0,none⟩) need ncap):=by
 have jW:(vs.toArray++zs).size=ncap*sz:=by
  simp only[Array.size_append,List.size_toArray,eW.1,hneed,hzs,←Nat.add_mul]
  congr 1;omega
 obtain⟨ρ',k1,k2,k3,k4⟩:=Ez hR w' (m:=ncap) (cap:=none) (xs:=ys) hw dX jW (by omega) (fun k hk=>by cases hk) (fun q v hv=>by
  rw[Array.getElem?_append]at hv
  split at hv
  ·exact eW.2.1 v (List.mem_of_getElem? (by simpa using hv))
  ·exact WA _ v hv) (eW.toElems fun j u hj=>by
  rw[Nat.zero_add,Array.getElem?_append_left (by have:=(List.getElem?_eq_some_iff.1 hj).1;simpa using this)]
  simpa using hj) hq
 exact⟨ρ',k1,k2,.sl k3 k4 (by simp) gZ (.inl (by simp))⟩
end
end Go.Dm
/-
Part 10 of "Dm": append whole; copy; make.
-/
namespace Go.Dm
section
variable {P:Program} {h h':aA} {c:Ctx} {env:Env} {a:Act} {o:Oper} {r:DV}
theorem Rel.moved(hR:Rel h c){id:Nat}{ob:DO}(o':DO)(hg:h.get id=some ob)(ha:fQ ob=true)(ha':fQ o'=true){b base base':Nat}(hr:c.ρ id=some (b,base))(w':World)
  (jW:c.w.heap.size=w'.heap.size) (fR:∀k,k≠b→w'.heap[k]?=c.w.heap[k]?) (dV:∀e n,c.w.shape? b=some (e,n)→w'.shape? b=some (e,n)) (hq:lV c.w w')
  (Py:bI c (c.next w' (fun i=>if i=h.n then some (b,base')else c.ρ i) ((h.set id .dead).push o'))→Kx (c.next w' (fun i=>if i=h.n then some (b,base')else c.ρ i) ((h.set id .dead).push o')) h.n o') :
  Rel ((h.set id .dead).push o') (c.next w' (fun i=>if i=h.n then some (b,base')else c.ρ i) ((h.set id .dead).push o'))∧bI c (c.next w' (fun i=>if i=h.n then some (b,base')else c.ρ i) ((h.set id .dead).push o')):=by
 have eF:=cY hg
 have hOw:iI h c.ρ b:=⟨id,ob,base,hg,ha,hr⟩
 have hO:c.O b:=(hR.own b).2 (.inl hOw)
 have hn:(h.set id .dead).n=h.n:=rfl
 have nQ:∀i oi,((h.set id .dead).push o').get i=some oi→fQ oi=true→(i=h.n∧oi=o')∨(i≠h.n∧i≠id∧h.get i=some oi):=by
  intro i oi rR pU
  rw[cH,hn]at rR
  split at rR
  ·rename_i e;cases rR;exact .inl ⟨e,rfl⟩
  ·rename_i e
   by_cases ei:i=id
   ·subst ei
    rw[bV hR.len hg]at rR
    cases rR;simp[fQ]at pU
   ·rw[aN eF ei]at rR
    exact .inr ⟨e,ei,rR⟩
 have iX:∀k,iI ((h.set id .dead).push o') (fun i=>if i=h.n then some (b,base')else c.ρ i) k→iI h c.ρ k:=by
  rintro k ⟨i,oi,x,rR,pU,nX⟩
  rcases nQ i oi rR pU with⟨e,_⟩|⟨e,_,hgi'⟩
  ·simp only[if_pos e]at nX;cases nX;exact hOw
  ·simp only[if_neg e]at nX
   exact⟨i,oi,x,hgi',pU,nX⟩
 have cD:bI c (c.next w' (fun i=>if i=h.n then some (b,base')else c.ρ i) ((h.set id .dead).push o')):=by
  refine⟨fun i p hp=>?_,Nat.le_of_eq jW,fun k hk hnO=>fR k (fun e=>hnO (e ▸ hO)),fun k hk=>.inl ((hR.own k).2 (hk.imp (iX k) (fun x=>x))),fun k e n hs=>?_,fun _ hx=>hx,fun k hk hE=>⟨hE,fR k fun e=>(hR.pend k hE).2 (e ▸ hOw)⟩,hq,rfl⟩
  ·have:i<h.n:=hR.dom i (by rw[hp];simp)
   simp only[Ctx.next]
   rw[if_neg (by omega)];exact hp
  ·by_cases ek:k=b
   ·subst ek;exact dV e n hs
   ·simp only[World.shape?,Ctx.next]at hs ⊢
    rw[fR k ek];exact hs
 refine⟨⟨sJ (Ao hR.len),Nat.le_succ_of_le hR.lim,?_,?_,?_,fun _=>Iff.rfl,fun k hk=>hR.notX k ((hR.own k).2 (hk.imp (iX k) (fun x=>x))),fun k hk=>by simpa[Ctx.next,←jW]using hR.old k hk,
  fun k hk=>⟨by simpa[Ctx.next,←jW]using(hR.pend k hk).1,fun ho=>(hR.pend k hk).2 (iX k ho)⟩,hR.glob.mono cD⟩,cD⟩
 ·intro i hi
  rw[Cj,hn]
  by_cases e:i=h.n
  ·omega
  ·simp only[Ctx.next,if_neg e]at hi;have:=hR.dom i hi;omega
 ·intro i oi rR
  by_cases pU:fQ oi=true
  ·rcases nQ i oi rR pU with⟨e,e2⟩|⟨e,e2,hgi'⟩
   ·subst e;subst e2;exact Py cD
   ·refine(hR.obj i oi hgi').mono cD fun _ k x nX=>fR k fun ek=>e2 ?_
    subst ek
    exact hR.inj i id oi ob k x base hgi' hg pU ha nX hr
  ·cases oi<;>simp[fQ]at pU
   trivial
 ·intro i j oi oj k x y hi hj pU Mk nX xN
  simp only[Ctx.next]at nX xN
  rcases nQ i oi hi pU with⟨e1,_⟩|⟨e1,n1,g1⟩<;>rcases nQ j oj hj Mk with⟨e2,_⟩|⟨e2,n2,g2⟩
  ·omega
  ·simp only[if_pos e1]at nX;simp only[if_neg e2]at xN
   cases nX
   exact absurd (hR.inj j id oj ob b y base g2 hg Mk ha xN hr) n2
  ·simp only[if_neg e1]at nX;simp only[if_pos e2]at xN
   cases xN
   exact absurd (hR.inj i id oi ob b x base g1 hg pU ha nX hr) n1
  ·simp only[if_neg e1]at nX;simp only[if_neg e2]at xN
   exact hR.inj i j oi oj k x y g1 g2 pU Mk nX xN
theorem rG{xs ys:List DV}{k:Nat}(cD:k+ys.length≤xs.length):(cB xs ys k).length=xs.length:=by
 simp[cB];omega
theorem Gd{xs ys:List DV}{k:Nat}(cD:k+ys.length≤xs.length)(q:Nat):(cB xs ys k)[q]?=if q<k then xs[q]? else if q<k+ys.length then ys[q-k]? else xs[q]?:=by
 have hl:(xs.take k).length=k:=by simp;omega
 simp only[cB,List.append_assoc]
 rw[List.getElem?_append,hl]
 split
 ·rename_i hq;rw[List.getElem?_take,if_pos hq]
 ·rw[List.getElem?_append]
  split
  ·rw[if_pos (by omega)]
  ·rw[if_neg (by omega),List.getElem?_drop]
   congr 1
   omega
theorem nD{xs ys:List DV}{sz base k m:Nat}{cur:Array Value}{news:List Value}(hE:gJ c xs sz cur base)(jW:cur.size=base+m*sz)(hm:xs.length≤m)(eW:iQ c sz ys news)(cD:k+ys.length≤xs.length) :
  base+k*sz+news.length≤cur.size∧gJ c (cB xs ys k) sz (spl cur (base+k*sz) news) base:=by
 have hb:base+k*sz+news.length≤cur.size:=by
  have:(k+ys.length)*sz≤m*sz:=Nat.mul_le_mul_right _ (by omega)
  rw[Nat.add_mul]at this
  rw[eW.1];omega
 refine⟨hb,jB.2 fun i d hd=>?_⟩
 have hE':=jB.1 hE
 rw[Gd cD]at hd
 split at hd
 ·rename_i BW
  obtain⟨w1,w2⟩:=hE' i d hd
  refine⟨w1,w2.other hb (.inl ?_)⟩
  rw[w1]
  have:(i+1)*sz≤k*sz:=Nat.mul_le_mul_right _ BW
  rw[Nat.add_mul]at this
  omega
 ·rename_i BW
  split at hd
  ·rename_i hik2
   obtain⟨w1,w2⟩:=eW.2.2 _ d hd
   refine⟨w1,fun j e he=>?_⟩
   obtain⟨u,b1,b2⟩:=w2 j e he
   have Ve:=(List.getElem?_eq_some_iff.1 b1).1
   refine⟨u,?_,eW.2.1 u (List.mem_of_getElem? b1),b2⟩
   have hmul:(i-k)*sz+k*sz=i*sz:=by rw[←Nat.add_mul];congr 1;omega
   rw[oU hb,if_neg (by omega),if_pos (by omega)]
   rw[←b1];congr 1;omega
  ·rename_i hik2
   obtain⟨w1,w2⟩:=hE' i d hd
   refine⟨w1,w2.other hb (.inr ?_)⟩
   rw[eW.1]
   have:(k+ys.length)*sz≤i*sz:=Nat.mul_le_mul_right _ (by omega)
   rw[Nat.add_mul]at this
   omega
theorem rN(hR:Rel h c){e:TypeId}{sz bytes:Nat}(dX:0<sz){ys:List DV}{news:List Value}(eW:iQ c sz ys news){run:Value→Result Value}
  (A0:ys=[]→∀base sLen sCap,sLen≤sCap→run (.slice base sLen sCap)=.ok (.slice base sLen sCap) c.w)
  (A1:∀b co sLen sCap cur ety,c.w.heap[b]?=some (.cells cur ety (0,0))→sLen+ys.length≤sCap→(sLen+ys.length)*bytes≤140737488355328→co+sLen*sz+news.length≤cur.size →
   run (.slice (some ⟨b,co,none⟩) sLen sCap)=.ok (.slice (some ⟨b,co,none⟩) (sLen+ys.length) sCap) (c.w.setRow b (spl cur (co+sLen*sz) news)))
  (A2:∀base sLen sCap (olds:List Value),(Builtin.firstCells sz sLen (.slice base sLen sCap)).run P c.w.drew=.ok olds.toArray c.w.drew→sCap<sLen+ys.length→sLen+ys.length≤9223372036854775807→(sLen+ys.length)*bytes≤140737488355328 →
   ∃ ncap zs,sLen+ys.length≤ncap∧(zs.size=(ncap-(sLen+ys.length))*sz∧lW zs)∧run (.slice base sLen sCap)=.ok (.slice (some ⟨c.w.heap.size,0,none⟩) (sLen+ys.length) ncap) (c.w.drew.alloc (.cells ((olds++news).toArray++zs) e)))
  {s:DV} {v:Value} (hv:VR c s v) (hs:bF h e sz bytes s ys=some (r,h')):∃ v' w',run v=.ok v' w'∧jS h c h' w' r v':=by
 unfold bF at hs
 split at hs
 ·obtain⟨ad,dD⟩:=hv.nsl_inv
  subst dD
  split at hs
  ·rename_i hy
   have WB:ys=[]:=by simpa using hy
   cases hs
   exact⟨_,_,A0 WB ad 0 0 (Nat.le_refl _),jS.pure hR (.nsl ad)⟩
  ·rename_i hy
   have WB:0<ys.length:=by
    rcases Nat.eq_zero_or_pos ys.length with e0|e0
    ·exact absurd (List.eq_nil_of_length_eq_zero e0) (by simpa using hy)
    ·exact e0
   split at hs
   ·rename_i hb
    cases hs
    obtain⟨ncap,zs,n1,n2,n3⟩:=A2 ad 0 0 [] (by cases ad with|none=>rfl|some adr=>simpa using run_firstCells_some (P:=P) c.w.drew sz 0 adr 0 0 [] (by simp) (by simp)) (by omega) (by omega) (by simpa using hb.1)
    simp only[Nat.zero_add,List.nil_append]at n1 n2 n3
    exact⟨_,_,n3,yP hR rfl dX eW rfl n1 n2.1 n2.2⟩
   ·cases hs
 ·rename_i id dK off len
  split at hs
  ·rename_i hy
   have WB:ys=[]:=by simpa using hy
   cases hs
   obtain⟨b,base,fA,gK,nn,lP,dD,hρ,dV,yU,Ay,Eo⟩:=hv.sl_inv
   exact⟨_,_,by rw[dD];exact A0 WB _ len fA Ay,jS.pure hR (dD ▸ hv)⟩
  ·rename_i hy
   have WB:0<ys.length:=by
    rcases Nat.eq_zero_or_pos ys.length with e0|e0
    ·exact absurd (List.eq_nil_of_length_eq_zero e0) (by simpa using hy)
    ·exact e0
   split at hs
   ·rename_i ety jQ xs cap hg
    split at hs
    ·rename_i bS
     obtain⟨e1,e2,e3,cD,Cr,hb2⟩:=bS
     subst e1;subst e2;subst e3
     obtain⟨b,base,fA,gK,nn,lP,dD,hρ,dV,yU,Ay,Eo⟩:=hv.sl_inv
     obtain⟨cur,mm,g1,g2,g3,g4,g5,g6⟩:=hR.arr hg hρ
     have RK:=dN g1
     rw[RK]at dV
     cases dV
     have mC:=zX g2 g3 yU
     have hslE:elems h sz (.sl id sz off len)=some ((xs.drop off).take len):=by
      simp only[elems,hg]
      rw[if_pos ⟨trivial,trivial,cD⟩]
     have hslen:((xs.drop off).take len).length=len:=by simp;omega
     have grow:fA<len+ys.length→∃ olds ncap zs,iQ c sz ((xs.drop off).take len++ys) (olds++news)∧len+ys.length≤ncap∧(zs.size=(ncap-(len+ys.length))*sz∧lW zs) ∧
       run v=.ok (.slice (some ⟨c.w.heap.size,0,none⟩) (len+ys.length) ncap) (c.w.drew.alloc (.cells ((olds++news).toArray++zs) e)):=by
      intro PN
      obtain⟨ad,capv,olds,q1,q2,q3,q4,q5⟩:=kR hR hslE hv
      rw[dD]at q1
      simp only[Value.slice.injEq]at q1
      obtain⟨qa,qb,qc⟩:=q1
      subst qa;subst qc
      have LU:=Ce (P:=P) (sz:=sz) (n:=len) (cap:=fA) (ad:=some ⟨b,gK,none⟩) (news:=olds) (by rw[q3.1,hslen]) (by simp) (w:=c.w) (w':=c.w.drew) rfl q5
      obtain⟨ncap,zs,n1,n2,n3⟩:=A2 (some ⟨b,gK,none⟩) len fA olds LU PN hb2 Cr
      exact⟨olds,ncap,zs,q3.append eW,n1,n2,by rw[dD];exact n3⟩
     have fits:len+ys.length≤fA→gK=base+off*sz∧∀lK:base+(off+len)*sz+news.length≤cur.size,run v=.ok (.slice (some ⟨b,gK,none⟩) (len+ys.length) fA) (c.w.setRow b (spl cur (base+(off+len)*sz) news)):=by
      intro hft
      have nS:gK=base+off*sz:=Eo.elim (fun e=>e) (fun e=>by omega)
      refine⟨nS,fun lK=>?_⟩
      have:=A1 b gK len fA cur e g1 hft Cr (by rw[nS];rw[Nat.add_mul]at lK;omega)
      rw[dD,this,nS,Nat.add_mul,Nat.add_assoc]
     split at hs
     ·rename_i Qe
      split at hs
      ·cases hs
       obtain⟨lK,nR⟩:=nD g6 g3 g4 eW (k:=off+len) (by omega)
       obtain⟨nS,gB⟩:=fits (by omega)
       obtain⟨k1,k2⟩:=hR.write hg hρ g1 g2 g3 (cB xs ys (off+len)) (rG (by omega)) g4 g5 (base+(off+len)*sz) news lK eW.2.1 nR
       refine⟨_,_,gB lK,c.ρ,k1,k2,?_⟩
       have hsh':(c.w.setRow b (spl cur (base+(off+len)*sz) news)).shape? b=some (e,cur.size):=by
        rw[dN (setRow_heap c.w b cur _ e (0,0) g1),pL lK]
       exact .sl hρ hsh' yU (by omega) (.inl nS)
      ·cases hs
     ·rename_i hout
      split at hs
      ·rename_i k
       cases hs
       have hk:=g5 k rfl
       obtain⟨olds,ncap,zs,p1,p2,p3,p4⟩:=grow (by omega)
       exact⟨_,_,p4,yP hR rfl dX p1 (by simp;omega) p2 p3.1 p3.2⟩
      ·split at hs
       ·cases hs
        by_cases PN:len+ys.length≤fA
        ·obtain⟨nS,gB⟩:=fits PN
         have hbnd:base+(off+len)*sz+news.length≤cur.size:=by
          have:(off+len+ys.length)*sz≤mm*sz:=Nat.mul_le_mul_right _ (by omega)
          rw[Nat.add_mul]at this
          rw[eW.1];omega
         have hsh':(c.w.setRow b (spl cur (base+(off+len)*sz) news)).shape? b=some (e,cur.size):=by
          rw[dN (setRow_heap c.w b cur _ e (0,0) g1),pL hbnd]
         obtain⟨k1,k2⟩:=hR.moved (.arr e sz ((xs.drop off).take len++ys) none) hg rfl rfl (base':=base+off*sz) hρ (c.w.setRow b (spl cur (base+(off+len)*sz) news)) (by simp) (fun k hk=>setRow_other _ _ _ _ hk)
          (fun e2 n Br=>by rw[RK]at Br;cases Br;exact hsh') (.at g1 (setRow_heap c.w b cur _ e (0,0) g1) (fun k hk=>setRow_other _ _ _ _ hk) rfl rfl rfl rfl)
          (fun hle'=>by
           refine⟨b,base+off*sz,spl cur (base+(off+len)*sz) news,fA,by simp[Ctx.next],setRow_heap c.w b cur _ e (0,0) g1,dX,by rw[pL hbnd];omega,by rw[List.length_append,hslen];exact PN,(fun k hk=>by cases hk),Gw (hR.oneRow hg hρ g1) hbnd eW.2.1,?_⟩
           refine gJ.mono' ?_ hle'
           have hfirst:=(uU g6 g3 off len cD g4)
           refine(hfirst.append eW).toElems fun j u hj=>?_
           have hfl:((cur.toList.drop (base+off*sz)).take (len*sz)).length=len*sz:=by rw[hfirst.1,hslen]
           rw[oU hbnd]
           rw[List.getElem?_append,hfl]at hj
           have hmul:base+(off+len)*sz=base+off*sz+len*sz:=by rw[Nat.add_mul];omega
           split at hj
           ·rename_i Ve
            rw[if_pos (by omega)]
            rw[List.getElem?_take,if_pos Ve,List.getElem?_drop,Array.getElem?_toList]at hj
            exact hj
           ·rename_i Ve
            have:=(List.getElem?_eq_some_iff.1 hj).1
            rw[if_neg (by omega),if_pos (by omega)]
            rw[←hj];congr 1;omega)
         refine⟨_,_,gB hbnd,_,k1,k2,?_⟩
         exact .sl (base:=base+off*sz) (by simp[Ctx.next]) hsh' (by rw[Nat.zero_mul];omega) PN (.inl (by rw[nS];omega))
        ·obtain⟨olds,ncap,zs,p1,p2,p3,p4⟩:=grow (by omega)
         obtain⟨k1,k2⟩:=hR.kill hg
         have As:=yP (c:=c.next c.w c.ρ (h.set id .dead)) k1 (w':=c.w.drew.alloc (.cells ((olds++news).toArray++zs) e)) rfl dX (p1.mono k2) (need:=len+ys.length) (by simp;omega) p2 p3.1 p3.2
         obtain⟨ρ',m1,m2,m3⟩:=As
         exact⟨_,_,p4,ρ',m1,k2.trans m2,m3⟩
       ·cases hs
    ·cases hs
   ·cases hs
 ·cases hs
end
end Go.Dm
/-
Part 11 of "Dm": append, copy, clear, make, as operations; slices and structs that are built.
-/
namespace Go.Dm
section
variable {P:Program} {h h':aA} {c:Ctx} {env:Env} {a:Act} {o:Oper} {r:DV}
theorem GI{t u e:TypeId}{sz bytes:Nat}{z:DV}{s x:Operand}{s' x':Opd}(ho:o.op=.call {callee:=.builtin .append,args:=#[s,x],argTypes:=#[t,u]})(ht:P.underlying t=some (.slice e))(hu:P.underlying u=some (.slice e))
  (he:dT P e=some (sz,bytes,z)) (Br:opd s=some s') (hx:opd x=some x') (hR:Rel h c) (hE:bY c env a) (hs:aC h env (.append e sz bytes s' x')=some (r,h')):fE P h c o a h' r:=by
 have vs:=bD Br hE
 have vx:=bD hx hE
 obtain⟨i,z0,hi,e1,e2,hz,zM,dX,cS⟩:=eR he
 subst e1;subst e2
 obtain⟨hz3,VZ,hz4⟩:=dM cS (eD zM c)
 have WA:∀j (hj:j<z0.cells.size),(z0.cells[j]).oneCell'=true:=fun j hj=>(hz4 j (by omega) hj).2
 simp only[aC]at hs
 split at hs
 ·rename_i ys xA
  obtain⟨ad,cap,news,q1,q2,q3,q4,q5⟩:=kR hR xA vx
  obtain⟨v',w',h1,h2⟩:=rN (P:=P) hR dX q3 (run:=fun v=>(Builtin.append_ #[t,u] o.type #[v,a.eval x]).run P c.w)
   (fun hy base sLen sCap cD=>by
    subst hy
    rw[q1]
    exact Wx ht hu hi cD)
   (fun b co sLen sCap cur ety g1 mC _ lK=>by
    rw[q1]
    exact Wy ht hu hi g1 (Ce q3.1 (fun hn=>by rw[q4 hn];rfl) rfl q5) q3.2.1 mC lK)
   (fun base sLen sCap olds LU hg h63 hb=>by
    refine⟨_,Builtin.zeroCells z0.cells (grownCap c.w (sLen+ys.length) sCap e-(sLen+ys.length)),grownCap_ge _ _ _ _,⟨by rw[cL,VZ],tH WA⟩,?_⟩
    rw[q1]
    have hf:=Ce (P:=P) (cap:=cap) q3.1 (fun hn=>by rw[q4 hn];rfl) (w:=c.w) (w':=c.w.drew) rfl q5
    have:=Qz (P:=P) (ty:=o.type) ht hu hi hz (w:=c.w) LU hf hg h63 hb
    rw[this]
    congr 3
    apply Array.ext'
    simp)
   vs hs
  exact⟨.value v',v',w',by rw[cG ho];simp[builtin,h1],.inl rfl,h2⟩
 ·cases hs
theorem qM{sz n:Nat}{z:DV}{z0:Value}(dX:0<sz)(cS:aQ sz z=true)(hv:VR c z z0):iQ c sz (List.replicate n z) (Builtin.zeroCells z0.cells n).toList:=by
 obtain⟨s1,s2,s3⟩:=dM cS hv
 have xO:0<z0.cells.size:=by omega
 refine⟨by simp[cL,s2],fun u hu=>?_,fun i d hd=>?_⟩
 ·obtain⟨q,hq⟩:=List.getElem?_of_mem hu
  rw[Array.getElem?_toList]at hq
  have aY:=(Array.getElem?_eq_some_iff.1 hq).1
  rw[cL]at aY
  rw[rE xO aY]at hq
  cases hq
  exact(s3 _ (by rw[s1,←s2];exact Nat.mod_lt _ xO) (Nat.mod_lt _ xO)).2
 ·rw[List.getElem?_replicate]at hd
  split at hd
  ·rename_i hi
   cases hd
   refine⟨s1,fun j e he=>?_⟩
   obtain⟨hj,rfl⟩:=List.getElem?_eq_some_iff.1 he
   have uO:=hj
   rw[s1]at uO
   have hq:i*sz+j<n*z0.cells.size:=by rw[s2];exact kM hi uO
   refine⟨z0.cells[j]'(by omega),?_,(s3 j hj (by omega)).1⟩
   rw[Array.getElem?_toList,rE xO hq]
   congr 1
   congr 1
   rw[s2,Nat.mul_comm,Nat.mul_add_mod,Nat.mod_eq_of_lt uO]
  ·cases hd
theorem Z1{t u e:TypeId}{k:IntKind}{sz bytes:Nat}{z:DV}{s x:Operand}{s' x':Opd}(ho:o.op=.call {callee:=.builtin .append,args:=#[s,x],argTypes:=#[t,u]})(ht:P.underlying t=some (.slice e))(hu:P.underlying u=some (.int k))
  (he:dT P e=some (sz,bytes,z)) (Br:opd s=some s') (hx:opd x=some x') (hR:Rel h c) (hE:bY c env a) (hs:aC h env (.appendZ e sz bytes z s' x')=some (r,h')):fE P h c o a h' r:=by
 have vs:=bD Br hE
 have vx:=bD hx hE
 obtain⟨i,z0,hi,e1,e2,hz,zM,dX,cS⟩:=eR he
 subst e1;subst e2
 obtain⟨hz3,VZ,hz4⟩:=dM cS (eD zM c)
 have WA:∀j (hj:j<z0.cells.size),(z0.cells[j]).oneCell'=true:=fun j hj=>(hz4 j (by omega) hj).2
 simp only[aC]at hs
 split at hs
 ·rename_i n hn
  obtain⟨kx,hkx⟩:=wG hn vx
  split at hs
  ·rename_i bS
   obtain⟨c1,c2⟩:=bS
   obtain⟨m,rfl⟩:=Int.eq_ofNat_of_zero_le c1
   simp only[Int.toNat_natCast]at hs
   have hm:m≤140737488355328:=by omega
   have hw:IntKind.i64.wrap (m:Int)=m:=by rw[IntKind.wrap_i64];omega
   have Qc:¬((m:Int)<0):=by omega
   have eW:=qM (c:=c) (n:=m) dX cS (eD zM c)
   have cC:(List.replicate m z).length=m:=by simp
   obtain⟨v',w',h1,h2⟩:=rN (P:=P) hR dX eW (run:=fun v=>(Builtin.append_ #[t,u] o.type #[v,a.eval x]).run P c.w)
    (fun hy base sLen sCap cD=>by
     have R8:m=0:=by simpa using hy
     subst R8
     have hb:¬((0:Int) > 281474976710656):=by omega
     simp only[hkx]
     cases base<;>simp[Builtin.append_,run_underlying ht,run_underlying hu,sizeOf,typeInfo,hi,asInt,asIntOf,cD,storeCells,IntKind.wrap_i64])
    (fun b co sLen sCap cur ety g1 mC hb lK=>by
     rw[cC]at mC hb
     have Kh:¬(281474976710656<(m:Int)*(i.bytes:Int)):=by
      have:m*i.bytes≤(sLen+m)*i.bytes:=Nat.mul_le_mul_right _ (by omega)
      rw[←Int.natCast_mul];omega
     have Hh:=iS (P:=P) g1 _ lK eW.2.1
     simp only[hkx,cC]
     by_cases R8:m=0
     ·subst R8
      have:(Builtin.zeroCells z0.cells 0).toList=[]:=List.eq_nil_of_length_eq_zero (by simp[cL])
      rw[this]at Hh ⊢
      simp only[Nat.add_zero]at mC
      simp[Builtin.append_,run_underlying ht,run_underlying hu,sizeOf,typeInfo,hi,asInt,asIntOf,mC,IntKind.wrap_i64,Addr.add_lit,Hh]
     ·have hms:¬(m*i.size=0):=Nat.mul_ne_zero R8 (by omega)
      simp[Builtin.append_,run_underlying ht,run_underlying hu,sizeOf,typeInfo,zeroValue,hi,hz,asInt,asIntOf,hw,Qc,Kh,mC,hms,Addr.add_lit,Hh])
    (fun base sLen sCap olds LU hg h63 hb=>by
     rw[cC]at hg h63 hb
     have Kh:¬(281474976710656<(m:Int)*(i.bytes:Int)):=by
      have:m*i.bytes≤(sLen+m)*i.bytes:=Nat.mul_le_mul_right _ (by omega)
      rw[←Int.natCast_mul];omega
     have PG:¬(sLen+m≤sCap):=by omega
     have h63':¬(9223372036854775807<((sLen:Int)+(m:Int))):=by omega
     have G9:¬(281474976710656<Builtin.nextslicecap (sLen+m) sCap*i.bytes):=by have:=growslice_fits hg hb;omega
     have R8:m≠0∨m=0:=by omega
     refine⟨grownCap c.w (sLen+m) sCap e,Builtin.zeroCells z0.cells (grownCap c.w (sLen+m) sCap e-(sLen+m)),by rw[cC];exact grownCap_ge _ _ _ _,⟨by rw[cL,VZ,cC],tH WA⟩,?_⟩
     simp only[hkx,cC]
     rcases R8 with R8|R8
     ·have hms:¬(m*i.size=0):=Nat.mul_ne_zero R8 (by omega)
      simp[Builtin.append_,run_underlying ht,run_underlying hu,sizeOf,typeInfo,zeroValue,hi,hz,asInt,asIntOf,hw,Qc,Kh,PG,hms,h63',G9,Question.forced,LU,newRow,grownCap]
      congr 2
      apply Array.ext'
      simp[List.append_assoc]
     ·subst R8
      have hze:(Builtin.zeroCells z0.cells 0)=#[]:=by apply Array.eq_empty_of_size_eq_zero;simp[cL]
      simp only[Nat.add_zero]at PG G9 
      simp[Builtin.append_,run_underlying ht,run_underlying hu,sizeOf,typeInfo,zeroValue,hi,hz,asInt,asIntOf,PG,G9,IntKind.wrap_i64,Question.forced,LU,newRow,grownCap,hze]
      omega)
    vs hs
   exact⟨.value v',v',w',by rw[cG ho];simp[builtin,h1],.inl rfl,h2⟩
  ·cases hs
 ·cases hs
end
end Go.Dm
/-
Part 12 of "Dm": copy, clear, make, slices and structs that are built.
-/
namespace Go.Dm
section
variable {P:Program} {h h':aA} {c:Ctx} {env:Env} {a:Act} {o:Oper} {r:DV}
theorem iQ.take{sz:Nat}{ys:List DV}{vs:List Value}(h1:iQ c sz ys vs)(n:Nat):iQ c sz (ys.take n) (vs.take (n*sz)):=by
 refine⟨?_,fun u hu=>h1.2.1 u (List.mem_of_mem_take hu),fun i d hd=>?_⟩
 ·rw[List.length_take,List.length_take,h1.1]
  rcases Nat.le_total n ys.length with cD|cD
  ·rw[Nat.min_eq_left cD,Nat.min_eq_left (Nat.mul_le_mul_right _ cD)]
  ·rw[Nat.min_eq_right cD,Nat.min_eq_right (Nat.mul_le_mul_right _ cD)]
 ·rw[List.getElem?_take]at hd
  split at hd
  ·rename_i hi
   obtain⟨a1,a2⟩:=h1.2.2 i d hd
   refine⟨a1,fun j e he=>?_⟩
   obtain⟨u,b1,b2⟩:=a2 j e he
   have hj:=(List.getElem?_eq_some_iff.1 he).1
   rw[a1]at hj
   exact⟨u,by rw[List.getElem?_take,if_pos (kM hi hj)];exact b1,b2⟩
  ·cases hd
theorem Ed(hR:Rel h c){sz:Nat}{d:DV}{v:Value}{ys:List DV}{news:List Value}(hv:VR c d v)(eW:iQ c sz ys news)(hs:wA h sz d ys=some (r,h')) :
  ∃ base dLen dCap,v=.slice base dLen dCap∧r=.int .i64 (Nat.min ys.length dLen:Nat)∧(base=none→dLen=0) ∧
   ∃ w',(∀adr,base=some adr→(storeCells adr (news.take (Nat.min ys.length dLen*sz))).run P c.w=.ok () w')∧(base=none→w'=c.w)∧jS h c h' w' r (goInt (Nat.min ys.length dLen:Nat)):=by
 unfold wA at hs
 split at hs
 ·cases hs
  obtain⟨ad,e⟩:=hv.nsl_inv
  exact⟨ad,0,0,e,by simp,fun _=>rfl,c.w,(fun adr _=>by simp[storeCells]),fun _=>rfl,by simpa[goInt]using jS.pure hR (.int .i64 0)⟩
 ·rename_i id dK off len
  split at hs
  ·rename_i ety jQ xs cap hg
   split at hs
   ·rename_i bS
    obtain⟨e1,e2,cD,bJ⟩:=bS
    subst e1;subst e2
    cases hs
    obtain⟨b,base,fA,gK,nn,lP,dD,hρ,dV,yU,Ay,Eo⟩:=hv.sl_inv
    obtain⟨cur,mm,g1,g2,g3,g4,g5,g6⟩:=hR.arr hg hρ
    have RO:(ys.take len).length=Nat.min ys.length len:=by rw[List.length_take,Nat.min_comm]
    have hrow':=eW.take len
    have htake:news.take (len*sz)=news.take (Nat.min ys.length len*sz):=by
     rcases Nat.le_total ys.length len with hl|hl
     ·have e1:Nat.min ys.length len=ys.length:=Nat.min_eq_left hl
      rw[e1,List.take_of_length_le (by rw[eW.1];exact Nat.mul_le_mul_right _ hl),List.take_of_length_le (by rw[eW.1];exact Nat.le_refl _)]
     ·have e1:Nat.min ys.length len=len:=Nat.min_eq_right hl
      rw[e1]
    obtain⟨lK,nR⟩:=nD g6 g3 g4 hrow' (k:=off) (by have:=List.length_take_le len ys;omega)
    obtain⟨k1,k2⟩:=hR.write hg hρ g1 g2 g3 (cB xs (ys.take len) off) (rG (by have:=List.length_take_le len ys;omega)) g4 g5 (base+off*sz) (news.take (len*sz)) lK (fun v hv=>eW.2.1 v (List.mem_of_mem_take hv)) nR
    refine⟨some ⟨b,gK,none⟩,len,fA,dD,by rw[RO],(fun h=>by cases h),c.w.setRow b (spl cur (base+off*sz) (news.take (len*sz))),fun adr hadr=>?_,(fun h=>by cases h),c.ρ,k1,k2,by rw[RO];exact .int _ _⟩
    cases hadr
    rw[←htake]
    by_cases RP:len=0
    ·subst RP
     have hcell:news.take (0*sz)=[]:=by simp
     rw[hcell]
     have hself:c.w.setRow b (spl cur (base+off*sz) [])=c.w:=by
      have:spl cur (base+off*sz) []=cur:=by simp[spl]
      rw[this]
      exact setRow_self c.w b cur ety (0,0) g1
     rw[hself]
     rfl
    ·have nS:gK=base+off*sz:=Eo.elim (fun e=>e) (fun e=>by omega)
     rw[nS]
     exact iS (P:=P) g1 _ lK hrow'.2.1
   ·cases hs
  ·cases hs
 ·cases hs
theorem UO{t u e:TypeId}{i:TypeInfo}{d s:Operand}{d' s':Opd}(ho:o.op=.call {callee:=.builtin .copy,args:=#[d,s],argTypes:=#[t,u]})(ht:P.underlying t=some (.slice e))(hi:P.info? e=some i)
  (hd:opd d=some d') (Br:opd s=some s') (hR:Rel h c) (hE:bY c env a) (hs:aC h env (.copy i.size d' s')=some (r,h')):fE P h c o a h' r:=by
 have vd:=bD hd hE
 have vs:=bD Br hE
 simp only[aC]at hs
 split at hs
 ·rename_i ys xA
  obtain⟨ad,cap,news,q1,q2,q3,q4,q5⟩:=kR hR xA vs
  obtain⟨base,dLen,dCap,p1,p2,p3,w',p4,p5,p6⟩:=Ed (P:=P) hR vd q3 hs
  refine⟨.value (goInt (Nat.min ys.length dLen:Nat)),_,w',?_,.inl rfl,p6⟩
  rw[cG ho]
  have hf:(Builtin.firstCells i.size (Nat.min ys.length dLen) (.slice ad ys.length cap)).run P c.w=.ok (news.take (Nat.min ys.length dLen*i.size)).toArray c.w:=by
   cases ad with
   | none =>
    have:=q4 rfl
    subst this
    have hn:news=[]:=List.eq_nil_of_length_eq_zero (by simpa using q3.1)
    subst hn
    simp[Builtin.firstCells]
   | some adr =>
    refine run_firstCells_some c.w i.size _ adr ys.length cap _ ?_ (fun j v hj=>?_)
    ·rw[List.length_take,q3.1]
     exact Nat.min_eq_left (Nat.mul_le_mul_right _ (Nat.min_le_left _ _))
    ·rw[List.getElem?_take]at hj
     split at hj
     ·exact q5 adr rfl j v hj
     ·cases hj
  cases base with
  | none =>
   have:=p5 rfl
   subst this
   simp[builtin,Builtin.copy_,run_underlying ht,p1,q1,Builtin.lenOf,sizeOf,typeInfo,hi,hf]
  | some adr =>
   have:=p4 adr rfl
   simp[builtin,Builtin.copy_,run_underlying ht,p1,q1,Builtin.lenOf,sizeOf,typeInfo,hi,hf,this]
 ·cases hs
theorem NJ{t e:TypeId}{sz bytes:Nat}{z:DV}{x:Operand}{x':Opd}(ho:o.op=.call {callee:=.builtin .clear,args:=#[x],argTypes:=#[t]})(ht:P.underlying t=some (.slice e))(he:dT P e=some (sz,bytes,z))
  (hx:opd x=some x') (hR:Rel h c) (hE:bY c env a) (hs:aC h env (.clear sz z x')=some (r,h')):fE P h c o a h' r:=by
 have vx:=bD hx hE
 obtain⟨i,z0,hi,e1,e2,hz,zM,dX,cS⟩:=eR he
 have LK:VR c (.tup []) (.tuple #[]):=.tup (ds:=[]) (vs:=[]) rfl (fun i h1 _=>absurd h1 (by simp))
 simp only[aC]at hs
 split at hs
 ·rename_i hv
  cases hs
  rw[hv]at vx
  obtain⟨ad,dD⟩:=vx.nsl_inv
  exact fE.value hR (.tuple #[]) (by rw[cG ho];cases ad<;>simp[builtin,Builtin.clear_,run_underlying ht,dD]) LK
 ·rename_i hv
  cases hs
  rw[hv]at vx
  rcases vx.isl_inv with⟨_,ad,cap,dD⟩|⟨b,o',cap,vals,dD,_⟩
  ·exact fE.value hR (.tuple #[]) (by rw[cG ho];cases ad<;>simp[builtin,Builtin.clear_,run_underlying ht,dD]) LK
  ·exact fE.value hR (.tuple #[]) (by rw[cG ho];simp[builtin,Builtin.clear_,run_underlying ht,dD]) LK
 ·rename_i id dK off len hv
  rw[hv]at vx
  split at hs
  ·rename_i hl
   cases hs
   subst hl
   obtain⟨b,base,fA,gK,nn,lP,dD,_⟩:=vx.sl_inv
   exact fE.value hR (.tuple #[]) (by rw[cG ho];simp[builtin,Builtin.clear_,run_underlying ht,dD]) LK
  ·rename_i hl
   split at hs
   ·rename_i r' Ki hc
    cases hs
    obtain⟨base,dLen,dCap,p1,p2,p3,w',p4,p5,ρ',p6,p7,p8⟩:=Ed (P:=P) hR vx (qM (c:=c) (n:=len) dX cS (eD zM c)) hc
    obtain⟨b,base',fA,gK,nn,lP,dD,_⟩:=vx.sl_inv
    rw[dD]at p1
    simp only[Value.slice.injEq]at p1
    obtain⟨pa,pb,pc⟩:=p1
    subst pa;subst pb;subst pc
    have hmin:Nat.min (List.replicate len z).length len=len:=by simp
    rw[hmin]at p4
    have gB:=p4 _ rfl
    obtain⟨_,VZ,_⟩:=dM cS (eD zM c)
    have hfull:(Builtin.zeroCells z0.cells len).toList.take (len*sz)=(Builtin.zeroCells z0.cells len).toList:=List.take_of_length_le (by simp[cL,VZ])
    rw[hfull]at gB
    refine⟨.value (.tuple #[]),_,w',?_,.inl rfl,ρ',p6,p7,.tup (ds:=[]) (vs:=[]) rfl (fun i h1 _=>absurd h1 (by simp))⟩
    rw[cG ho]
    have G2:∃ k,len=k+1:=⟨len-1,by omega⟩
    obtain⟨k,rfl⟩:=G2
    simp[builtin,Builtin.clear_,run_underlying ht,dD,zeroValue,typeInfo,hi,hz,gB]
   ·cases hs
 ·cases hs
theorem Sw{t e:TypeId}{sz bytes:Nat}{z:DV}{l m:Operand}{l' m':Opd}(ho:o.op=.makeSlice t l m)(ht:P.underlying t=some (.slice e))(he:dT P e=some (sz,bytes,z))
  (hl:opd l=some l') (hm:opd m=some m') (hR:Rel h c) (hE:bY c env a) (hs:aC h env (.makeSlice e sz bytes z l' m')=some (r,h')):fE P h c o a h' r:=by
 have vl:=bD hl hE
 have vm:=bD hm hE
 obtain⟨i,z0,hi,e1,e2,hz,zM,dX,cS⟩:=eR he
 subst e1;subst e2
 simp only[aC]at hs
 split at hs
 ·rename_i nl nm hnl hnm
  obtain⟨kl,RQ⟩:=wG hnl vl
  obtain⟨km,hkm⟩:=wG hnm vm
  split at hs
  ·rename_i bS
   obtain⟨c1,c2,c3,c4⟩:=bS
   simp only[Option.some.injEq,Prod.mk.injEq]at hs
   obtain⟨rfl,rfl⟩:=hs
   obtain⟨p,rfl⟩:=Int.eq_ofNat_of_zero_le c1
   obtain⟨q,rfl⟩:=Int.eq_ofNat_of_zero_le (Int.le_trans c1 c2)
   simp only[Int.toNat_natCast]
   obtain⟨s1,s2,s3⟩:=dM cS (eD zM c)
   have hq:q≤140737488355328:=by omega
   have Mg:p≤q:=by omega
   have w1:IntKind.i64.wrap (p:Int)=p:=by rw[IntKind.wrap_i64];omega
   have w2:IntKind.i64.wrap (q:Int)=q:=by rw[IntKind.wrap_i64];omega
   have eW:=qM (c:=c) (n:=q) dX cS (eD zM c)
   obtain⟨ρ',k1,k2,k3,k4⟩:=Ez hR {c.w with heap:=c.w.heap.push (.cells (Builtin.zeroCells z0.cells q) e)} (m:=q) (cap:=some q) (xs:=List.replicate q z) rfl dX (by rw[cL,s2]) (by simp) (fun k hk=>by cases hk;simp) (qP (m:=q) (eW.toElems fun j u hj=>by rw[Nat.zero_add];simpa using hj) dX (by rw[cL,s2]) (by simp))
    (eW.toElems fun j u hj=>by rw[Nat.zero_add];simpa using hj)
   refine⟨.value (.slice (some ⟨c.w.heap.size,0,none⟩) p q),_,{c.w with heap:=c.w.heap.push (.cells (Builtin.zeroCells z0.cells q) e)},?_,.inl rfl,ρ',k1,k2,.sl k3 k4 (by simp) Mg (.inl (by simp))⟩
   have t1:¬((q:Int)<0):=by omega
   have t2:¬((i.bytes:Int)*(q:Int) > 281474976710656):=by rw[Int.mul_comm];omega
   have t3:¬((p:Int)<0):=by omega
   have t4:¬((p:Int) > (q:Int)):=by omega
   by_cases hq0:q=0
   ·subst hq0
    have hp0:p=0:=by omega
    subst hp0
    have hze:(Builtin.zeroCells z0.cells 0)=#[]:=by apply Array.eq_empty_of_size_eq_zero;simp[cL]
    simp[execOp,ho,RQ,hkm,Instr.makeSlice,run_underlying ht,asInt,asIntOf,typeInfo,hi,IntKind.wrap_i64,sizeOf,newRow,hze]
    rw[show Array.range 0=#[]from by apply Array.eq_empty_of_size_eq_zero;simp]
    simp
   ·have hqs:¬(q*i.size=0):=Nat.mul_ne_zero hq0 (by omega)
    have hzr:(Array.range (q*i.size)).map (z0.cells[· % z0.cells.size]!)=Builtin.zeroCells z0.cells q:=by rw[←s2];rfl
    simp only[execOp,ho,RQ,hkm,Instr.makeSlice,Sem.run_bind,run_underlying ht,Result.andThen_ok,asInt,asIntOf,Sem.run_pure,typeInfo,run_program,hi,w1,w2]
    simp[t1,t2,t3,t4,sizeOf,typeInfo,zeroValue,hi,hz,newRow]
    rw[if_neg hqs,hzr]
  ·cases hs
 ·cases hs
end
end Go.Dm
/-
Part 13 of "Dm": slices and structs that are built; maps.
-/
namespace Go.Dm
section
variable {P:Program} {h h':aA} {c:Ctx} {env:Env} {a:Act} {o:Oper} {r:DV}
theorem Mm:∀(l:List Value) (cells:Array Value) (off k:Nat),off+k+l.length≤cells.size →
  (l.zipIdx k).foldl (fun cs (x:Value×Nat)=>cs.setIfInBounds (off+x.2) x.1) cells=spl cells (off+k) l
 | [],cells,off,k,_=>by simp[spl]
 | x::l,cells,off,k,cD=>by
  simp only[List.length_cons]at cD
  simp only[List.zipIdx_cons,List.foldl_cons]
  rw[Mm l _ off (k+1) (by simp;omega)]
  apply Array.ext_getElem?
  intro q
  rw[oU (by simp;omega),oU (by simp;omega)]
  simp only[List.length_cons]
  by_cases h1:q<off+k
  ·rw[if_pos (by omega),if_pos h1,Array.getElem?_setIfInBounds_ne (by omega)]
  ·by_cases h2:q=off+k
   ·subst h2
    rw[if_pos (by omega),if_neg (by omega),if_pos (by omega),Array.getElem?_setIfInBounds_self]
    rw[if_pos (by omega)]
    simp
   ·by_cases h3:q<off+k+(l.length+1)
    ·rw[if_neg (by omega),if_pos (by omega),if_neg h1,if_pos h3]
     rw[show q-(off+k)=(q-(off+(k+1)))+1 by omega]
     simp
    ·rw[if_neg (by omega),if_neg (by omega),if_neg h1,if_neg h3,Array.getElem?_setIfInBounds_ne (by omega)]
theorem Hu{v:Value}{cells:Array Value}{off:Nat}(cD:off+v.cells.size≤cells.size) :
  v.cells.zipIdx.foldl (fun cs (x:Value×Nat)=>cs.setIfInBounds (off+x.2) x.1) cells=spl cells off v.cells.toList:=by
 rw[←Array.foldl_toList,Array.toList_zipIdx]
 have:=Mm v.cells.toList cells off 0 (by simpa using cD)
 simpa using this
theorem Hx(place:Nat→Option (Nat×Nat)):∀(ps:List (Nat×Value)) (ds:List (Nat×Nat×DV)) (cells:Array Value) (cs cs':List DV),ps.length=ds.length →
  (∀(i:Nat) (p:Nat×Value) (d:Nat×Nat×DV),ps[i]?=some p→ds[i]?=some d→place p.1=some (d.1,d.2.1)∧VR c d.2.2 p.2) →
  dG c cells 0 cs→cells.size=cs.length→fN cs ds=some cs'→∃ iO,Instr.fill place cells ps=some iO∧dG c iO 0 cs'∧iO.size=cs'.length∧cs'.length=cs.length
 | [],ds,cells,cs,cs',hl,_,hc,dX,hf=>by
  cases ds with
  | nil=>simp only[fN]at hf;cases hf;exact⟨cells,rfl,hc,dX,rfl⟩
  | cons d ds=>simp at hl
 | p::ps,ds,cells,cs,cs',hl,hp,hc,dX,hf=>by
  cases ds with
  | nil=>simp at hl
  | cons d ds =>
   obtain⟨off,n,dv⟩:=d
   obtain⟨i,v⟩:=p
   simp only[fN]at hf
   split at hf
   ·rename_i bS
    obtain⟨cS,cD⟩:=bS
    obtain⟨JI,hv⟩:=hp 0 (i,v) (off,n,dv) rfl rfl
    simp only at JI hv
    obtain⟨s1,s2,s4,s3⟩:=jT cS hv
    have s2':v.cells.size=n:=by simpa using s2
    have hle':off+v.cells.toList.length≤cells.size:=by rw[s2];omega
    have l1:(cs.take off).length=off:=by rw[List.length_take];omega
    have JK:dG c (spl cells off v.cells.toList) 0 (cs.take off++aF n dv++cs.drop (off+n)):=by
     refine dG.append (dG.append ?_ ?_) ?_
     ·exact(hc.take off).other hle' (.inl (by rw[l1];omega))
     ·rw[l1,Nat.zero_add]
      exact dG.same hle' (by omega) s3
     ·rw[List.length_append,l1,s1]
      exact(hc.drop (off+n)).other hle' (.inr (by rw[s2];omega))
    have hlen':(cs.take off++aF n dv++cs.drop (off+n)).length=cs.length:=by simp only[List.length_append,List.length_take,List.length_drop,s1];omega
    obtain⟨iO,k1,k2,k3,k4⟩:=Hx place ps ds (spl cells off v.cells.toList) _ cs' (by simpa using hl) (fun j p' d' h1 h2=>hp (j+1) p' d' (by simpa using h1) (by simpa using h2)) JK (by rw[pL hle',hlen'];exact dX) hf
    refine⟨iO,?_,k2,k3,by rw[k4,hlen']⟩
    have Qc:(decide (v.cells.size≠n) || decide (off+v.cells.size > cells.size))=false:=by simp[s2'];omega
    simp only[Instr.fill,JI]
    rw[if_neg (by rw[Qc];simp)]
    rw[←k1]
    congr 1
    exact Hu (by omega)
   ·cases hf
theorem AE{sz:Nat}{d:DV}{v:Value}(cS:aQ sz d=true)(hv:VR c d v):iQ c sz [d] v.cells.toList:=by
 obtain⟨s1,s2,s4,s3⟩:=jT cS hv
 refine⟨by rw[s2];simp,s4,fun i e he=>?_⟩
 have hi:i=0:=by
  have:=(List.getElem?_eq_some_iff.1 he).1
  simpa using this
 subst hi
 simp only[List.getElem?_cons_zero,Option.some.injEq]at he
 subst he
 refine⟨s1,fun j e he=>?_⟩
 have hj:=(List.getElem?_eq_some_iff.1 he).1
 have EB:j<v.cells.toList.length:=by omega
 exact⟨v.cells.toList[j],by rw[Nat.zero_mul,Nat.zero_add];exact List.getElem?_eq_getElem EB,(s3 j e _ he (List.getElem?_eq_getElem EB)).2⟩
theorem Yq{xs:List DV}{d:DV}{i:Nat}(hi:i<xs.length):cB xs [d] i=xs.set i d:=by
 rw[List.set_eq_take_append_cons_drop,if_pos hi]
 simp[cB]
theorem Dz{sz:Nat}:∀(ps:List (Nat×Value)) (ds:List (Nat×DV)) (cells:Array Value) (xs xs':List DV),ps.length=ds.length →
  (∀(i:Nat) (p:Nat×Value) (d:Nat×DV),ps[i]?=some p→ds[i]?=some d→p.1=d.1∧VR c d.2 p.2) →
  gJ c xs sz cells 0→cells.size=xs.length*sz→cW sz xs ds=some xs'→∃ iO,Instr.fill (fun i=>some (i*sz,sz)) cells ps=some iO∧gJ c xs' sz iO 0∧iO.size=xs'.length*sz∧xs'.length=xs.length
 | [],ds,cells,xs,xs',hl,_,hc,dX,hf=>by
  cases ds with
  | nil=>simp only[cW]at hf;cases hf;exact⟨cells,rfl,hc,dX,rfl⟩
  | cons d ds=>simp at hl
 | p::ps,ds,cells,xs,xs',hl,hp,hc,dX,hf=>by
  cases ds with
  | nil=>simp at hl
  | cons d ds =>
   obtain⟨k,dv⟩:=d
   obtain⟨i,v⟩:=p
   simp only[cW]at hf
   split at hf
   ·rename_i bS
    obtain⟨cS,aY⟩:=bS
    obtain⟨JI,hv⟩:=hp 0 (i,v) (k,dv) rfl rfl
    simp only at JI hv
    subst JI
    obtain⟨s1,s2,s4,s3⟩:=jT cS hv
    have s2':v.cells.size=sz:=by simpa using s2
    obtain⟨lK,nR⟩:=nD (m:=xs.length) hc (by rw[dX,Nat.zero_add]) (Nat.le_refl _) (AE cS hv) (k:=i) (by simp only[List.length_cons,List.length_nil];omega)
    rw[Yq aY,Nat.zero_add]at nR
    rw[Nat.zero_add]at lK
    obtain⟨iO,k1,k2,k3,k4⟩:=Dz ps ds (spl cells (i*sz) v.cells.toList) _ xs' (by simpa using hl) (fun j p' d' h1 h2=>hp (j+1) p' d' (by simpa using h1) (by simpa using h2)) nR (by rw[pL lK,List.length_set];exact dX) hf
    refine⟨iO,?_,k2,k3,by rw[k4,List.length_set]⟩
    have Qc:(decide (v.cells.size≠sz) || decide (i*sz+v.cells.size > cells.size))=false:=by simp[s2'];rw[Array.length_toList,s2']at lK;exact lK
    simp only[Instr.fill]
    rw[if_neg (by rw[Qc];simp)]
    rw[←k1]
    congr 1
    exact Hu (by rw[Array.length_toList]at lK;exact lK)
   ·cases hf
theorem Ek(w:World)(t e:TypeId)(len:Nat)(parts:Array (Nat×Value))(cells:Array Value)(ie:TypeInfo)(z:Value)
  (hu:P.underlying t=some (.slice e)) (RR:P.info? e=some ie) (hz:ie.zero=some z) (hsmall:¬len*ie.size > 2 ^ 24) (xO:¬len*ie.size=0)
  (h:Instr.fill (fun i=>some (i*ie.size,ie.size)) ((Array.range (len*ie.size)).map (z.cells[· % z.cells.size]!)) parts.toList=some cells) :
  (Instr.buildSlice t len parts).run P w=.ok (.slice (some ⟨w.heap.size,0,none⟩) len len) (w.alloc (.cells cells e)):=by
 simp[Instr.buildSlice,run_underlying hu,sizeOf,typeInfo,zeroValue,RR,hz,hsmall,xO,h,newRow]
theorem Lo{t e:TypeId}{sz bytes len:Nat}{z:DV}{parts:Array (Nat×Operand)}{ps:List (Nat×Opd)}(ho:o.op=.buildSlice t len parts)(ht:P.underlying t=some (.slice e))(he:dT P e=some (sz,bytes,z))
  (hp:parts.toList.mapM (fun(x:Nat×Operand)=>(opd x.2).map fun y=>(x.1,y))=some ps) (hsmall:len*sz≤16777216) (hE:bY c env a) {xs:List DV} (LJ:cW sz (List.replicate len z) (ps.map fun p=>(p.1,p.2.eval env))=some xs) :
  ∃ w' cur,(execOp a.eval o).run P c.w=.ok (.value (.slice (some ⟨c.w.heap.size,0,none⟩) len len)) w'∧w'.heap=c.w.heap.push (.cells cur e (0,0))∧U9 c.w w'∧0<sz∧cur.size=xs.length*sz∧lW cur∧gJ c xs sz cur 0:=by
 obtain⟨i,z0,hi,e1,e2,hz,zM,dX,cS⟩:=eR he
 subst e1;subst e2
 obtain⟨s1,s2,s3⟩:=dM cS (eD zM c)
 have hl:=bZ _ _ _ hp
 have eW:=qM (c:=c) (n:=len) dX cS (eD zM c)
 have nR:=eW.toElems (cur:=Builtin.zeroCells z0.cells len) (base:=0) (fun j u hj=>by rw[Nat.zero_add];simpa using hj)
 obtain⟨iO,k1,k2,k3,k4⟩:=Dz (c:=c) (sz:=i.size) (parts.map fun(x:Nat×Operand)=>(x.1,a.eval x.2)).toList (ps.map fun p=>(p.1,p.2.eval env)) (Builtin.zeroCells z0.cells len) _ xs (by simp[hl])
  (fun j p d h1 h2=>by
   simp only[Array.toList_map,List.getElem?_map,Option.map_eq_some_iff]at h1 h2
   obtain⟨p0,p1,rfl⟩:=h1
   obtain⟨d0,d1,rfl⟩:=h2
   obtain⟨q1,q2⟩:=List.getElem?_eq_some_iff.1 p1
   obtain⟨q3,q4⟩:=List.getElem?_eq_some_iff.1 d1
   have:=eG _ _ _ hp j q1 q3
   rw[q2,q4]at this
   simp only[Option.map_eq_some_iff]at this
   obtain⟨y,hy,rfl⟩:=this
   exact⟨rfl,bD hy hE⟩) nR (by rw[cL,s2];simp) LJ
 have cC:xs.length=len:=by rw[k4];simp
 refine⟨{c.w with heap:=c.w.heap.push (.cells iO e)},iO,?_,rfl,⟨rfl,rfl,rfl,Nat.le_refl _⟩,dX,k3,qP (m:=len) k2 dX (by rw[k3,cC]) cC,k2⟩
 have hzr:(Array.range (len*i.size)).map (z0.cells[· % z0.cells.size]!)=Builtin.zeroCells z0.cells len:=by rw[←s2];rfl
 have BV:¬(len*i.size > 2 ^ 24):=by omega
 by_cases h0:len*i.size=0
 ·have hze:Builtin.zeroCells z0.cells len=#[]:=by apply Array.eq_empty_of_size_eq_zero;rw[cL,s2];exact h0
  rw[hze]at k1
  simp only[execOp,ho,Instr.buildSlice,Sem.run_bind,run_underlying ht,Result.andThen_ok,sizeOf,typeInfo,run_program,hi,Sem.run_pure,h0,if_true]
  rw[show Array.range 0=#[]from by apply Array.eq_empty_of_size_eq_zero;simp]
  simp only[Array.map_empty]
  rw[k1]
  simp[newRow]
 ·have:=Ek (P:=P) c.w t e len (parts.map fun(x:Nat×Operand)=>(x.1,a.eval x.2)) iO i z0 ht hi hz BV h0 (by rw[hzr];exact k1)
  simp[execOp,ho,this]
theorem Oi{t e:TypeId}{sz bytes len:Nat}{z:DV}{parts:Array (Nat×Operand)}{ps:List (Nat×Opd)}(ho:o.op=.buildSlice t len parts)(ht:P.underlying t=some (.slice e))(he:dT P e=some (sz,bytes,z))
  (hp:parts.toList.mapM (fun(x:Nat×Operand)=>(opd x.2).map fun y=>(x.1,y))=some ps) (hsmall:len*sz≤16777216) (hR:Rel h c) (hE:bY c env a) (hs:aC h env (.buildSlice e sz z len ps)=some (r,h')):fE P h c o a h' r:=by
 simp only[aC]at hs
 split at hs
 ·rename_i xs LJ
  simp only[Option.some.injEq,Prod.mk.injEq]at hs
  obtain⟨rfl,rfl⟩:=hs
  obtain⟨w',cur,r1,r2,r3,dX,r4,r5,r6⟩:=Lo (P:=P) (o:=o) (c:=c) (env:=env) (a:=a) ho ht he hp hsmall hE LJ
  have cC:xs.length=len:=by
   have key:∀(ps:List (Nat×DV)) (xs ys:List DV),cW sz xs ps=some ys→ys.length=xs.length:=by
    intro ps
    induction ps with
    | nil=>intro xs ys h;simp only[cW]at h;cases h;rfl
    | cons p ps ih =>
     intro xs ys h
     obtain⟨i,v⟩:=p
     simp only[cW]at h
     split at h
     ·rw[ih _ _ h,List.length_set]
     ·cases h
   rw[key _ _ _ LJ];simp
  obtain⟨ρ',j1,j2,j3,j4⟩:=Ez hR w' (m:=len) (cap:=some len) (xs:=xs) r2 dX (by rw[r4,cC]) (by omega) (fun k hk=>by cases hk;exact⟨rfl,cC⟩) r5 r6 r3
  exact⟨.value (.slice (some ⟨c.w.heap.size,0,none⟩) len len),_,w',r1,.inl rfl,ρ',j1,j2,.sl j3 j4 (by simp) (Nat.le_refl _) (.inl (by simp))⟩
 ·cases hs
theorem Eh{place:Nat→Option (Nat×Nat)}{parts:Array (Nat×Operand)}{ps:List (Nat×Nat×Opd)}{z0:Value}{zs cs:List DV}(zM:Da z0=some (.agg zs))(hE:bY c env a)
  (hl:parts.size=ps.length) (hp:∀(j:Nat) (p:Nat×Operand) (d:Nat×Nat×Opd),parts.toList[j]?=some p→ps[j]?=some d→place p.1=some (d.1,d.2.1)∧opd p.2=some d.2.2)
  (hf:fN zs (ps.map fun p=>(p.1,p.2.1,p.2.2.eval env))=some cs):∃ cells,Instr.fill place z0.cells (parts.map fun(x:Nat×Operand)=>(x.1,a.eval x.2)).toList=some cells∧VR c (.agg cs) (.agg cells):=by
 have hvz:=eD zM c
 obtain⟨vs,rfl,h1,h2,h3⟩:=hvz.agg_inv
 have hcells:dG c (Value.cells (.agg vs.toArray)) 0 zs:=by
  intro j d hd
  obtain⟨hj,rfl⟩:=List.getElem?_eq_some_iff.1 hd
  have uO:j<vs.length:=by omega
  exact⟨vs[j],by simp[Value.cells,uO],h2 j uO,h3 j hj uO⟩
 obtain⟨iO,k1,k2,k3,k4⟩:=Hx (c:=c) place (parts.map fun(x:Nat×Operand)=>(x.1,a.eval x.2)).toList (ps.map fun p=>(p.1,p.2.1,p.2.2.eval env)) (Value.cells (.agg vs.toArray)) zs cs (by simp[hl])
  (fun j p d g1 g2=>by
   simp only[Array.toList_map,List.getElem?_map,Option.map_eq_some_iff]at g1 g2
   obtain⟨p0,p1,rfl⟩:=g1
   obtain⟨d0,d1,rfl⟩:=g2
   obtain⟨q1,q2⟩:=hp j p0 d0 p1 d1
   exact⟨q1,bD q2 hE⟩) hcells (by simp[Value.cells,h1]) hf
 refine⟨iO,k1,?_⟩
 have key:VR c (.agg cs) (.agg iO.toList.toArray):=.agg (by simp[k3]) (fun j hj=>?_) (fun j PL EB=>?_)
 ·simpa using key
 ·have uO:j<cs.length:=by rw[←k3];simpa using hj
  obtain⟨v,a1,a2,a3⟩:=k2 j _ (List.getElem?_eq_getElem uO)
  rw[Nat.zero_add]at a1
  obtain⟨b1,b2⟩:=Array.getElem?_eq_some_iff.1 a1
  simp only[Array.getElem_toList]
  rw[b2];exact a2
 ·obtain⟨v,a1,a2,a3⟩:=k2 j _ (List.getElem?_eq_getElem PL)
  rw[Nat.zero_add]at a1
  obtain⟨b1,b2⟩:=Array.getElem?_eq_some_iff.1 a1
  simp only[Array.getElem_toList]
  rw[b2];exact a3
theorem Jr{t:TypeId}{sz bytes:Nat}{zs:List DV}{fs:Array Field}{parts:Array (Nat×Operand)}{ps:List (Nat×Nat×Opd)}(ho:o.op=.build t parts)(ht:P.underlying t=some (.struct fs))(he:dT P t=some (sz,bytes,.agg zs))
  (hp:parts.toList.mapM (fun(x:Nat×Operand)=>match fs[x.1]?,opd x.2 with
    | some f,some y=>(match P.info? f.type with|some fi=>some (f.offset,fi.size,y)|none=>none)
    | _,_=>none)=some ps) (iD:fs.toList.all (fun f=>(P.info? f.type).isSome)=true) (_hR:Rel h c) (hE:bY c env a) (hs:aC h env (.build zs ps)=some (r,h')):aX P h c o a h' r:=by
 obtain⟨i,z0,hi,e1,e2,hz,zM,dX,cS⟩:=eR he
 simp only[aC]at hs
 split at hs
 ·rename_i cs Ff
  simp only[Option.some.injEq,Prod.mk.injEq]at hs
  obtain⟨rfl,rfl⟩:=hs
  have hl:=bZ _ _ _ hp
  obtain⟨places,JI⟩:∃ places,fs.toList.mapM (fun f=>(P.info? f.type).map fun i=>(f.offset,i.size))=some places:=by
   have:∀l:List Field,l.all (fun f=>(P.info? f.type).isSome)=true→∃ places,l.mapM (fun f=>(P.info? f.type).map fun i=>(f.offset,i.size))=some places:=by
    intro l
    induction l with
    | nil=>intro _;exact⟨[],rfl⟩
    | cons f l ih =>
     intro hh
     simp only[List.all_cons,Bool.and_eq_true]at hh
     obtain⟨pl,JI⟩:=ih hh.2
     obtain⟨fi,G6⟩:=Option.isSome_iff_exists.1 hh.1
     exact⟨(f.offset,fi.size)::pl,by simp[List.mapM_cons,G6,JI]⟩
   exact this _ iD
  have hpll:=bZ _ _ _ JI
  obtain⟨cells,k1,k2⟩:=Eh (c:=c) (a:=a) (env:=env) (place:=(places.toArray[·]?)) (parts:=parts) (ps:=ps) zM hE (by simpa using hl.symm) (fun j p d g1 g2=>by
   obtain⟨q1,q2⟩:=List.getElem?_eq_some_iff.1 g1
   obtain⟨q3,q4⟩:=List.getElem?_eq_some_iff.1 g2
   have:=eG _ _ _ hp j q1 q3
   rw[q2,q4]at this
   split at this
   ·rename_i f y hf hy
    split at this
    ·rename_i fi G6
     cases this
     obtain⟨w1,w2⟩:=Array.getElem?_eq_some_iff.1 hf
     have w3:p.1<fs.toList.length:=by simpa using w1
     have:=eG _ _ _ JI p.1 w3 (by omega)
     have w4:fs.toList[p.1]=f:=by simpa using w2
     rw[w4,G6]at this
     simp only[Option.map_some,Option.some.injEq]at this
     refine⟨?_,hy⟩
     simp only[List.getElem?_toArray]
     rw[List.getElem?_eq_getElem (by omega),←this]
    ·cases this
   ·cases this) Ff
  have hb:P.built t (parts.map fun(x:Nat×Operand)=>(x.1,a.eval x.2)).toList=some cells:=by
   simp only[Program.built,hi,ht,hz,JI]
   exact k1
  exact aX.value (.agg cells) (by simp[execOp,ho,run_build c.w t _ cells hb]) k2
 ·cases hs
theorem Oj{t e:TypeId}{n sz bytes esz ebytes:Nat}{zs:List DV}{ez:DV}{parts:Array (Nat×Operand)}{ps:List (Nat×Nat×Opd)}(ho:o.op=.build t parts)(ht:P.underlying t=some (.array n e))(he:dT P t=some (sz,bytes,.agg zs))(Rk:dT P e=some (esz,ebytes,ez))
  (hp:parts.toList.mapM (fun(x:Nat×Operand)=>(opd x.2).map fun y=>(x.1*esz,esz,y))=some ps) (_hR:Rel h c) (hE:bY c env a) (hs:aC h env (.build zs ps)=some (r,h')):aX P h c o a h' r:=by
 obtain⟨i,z0,hi,e1,e2,hz,zM,dX,cS⟩:=eR he
 obtain⟨ie,ze,RR,g1,g2,hze,_,_,_⟩:=eR Rk
 simp only[aC]at hs
 split at hs
 ·rename_i cs Ff
  simp only[Option.some.injEq,Prod.mk.injEq]at hs
  obtain⟨rfl,rfl⟩:=hs
  have hl:=bZ _ _ _ hp
  obtain⟨cells,k1,k2⟩:=Eh (c:=c) (a:=a) (env:=env) (place:=fun i=>some (i*esz,esz)) (parts:=parts) (ps:=ps) zM hE (by simpa using hl.symm) (fun j p d g1 g2=>by
   obtain⟨q1,q2⟩:=List.getElem?_eq_some_iff.1 g1
   obtain⟨q3,q4⟩:=List.getElem?_eq_some_iff.1 g2
   have:=eG _ _ _ hp j q1 q3
   rw[q2,q4]at this
   simp only[Option.map_eq_some_iff]at this
   obtain⟨y,hy,rfl⟩:=this
   exact⟨rfl,hy⟩) Ff
  have hb:P.built t (parts.map fun(x:Nat×Operand)=>(x.1,a.eval x.2)).toList=some cells:=by
   simp only[Program.built,hi,ht,hz,RR,g1]
   exact k1
  exact aX.value (.agg cells) (by simp[execOp,ho,run_build c.w t _ cells hb]) k2
 ·cases hs
end
end Go.Dm
/-
Part 14 of "Dm": maps.
-/
namespace Go.Dm
section
variable {P:Program} {h h':aA} {c:Ctx} {env:Env} {a:Act} {o:Oper} {r:DV}
theorem rK(em:Bool):∀(m d:Nat) (t:TypeId) (ks:List Nat),flatK P m t=some ks→∀(w:World) (cs:List DV) (x:Value),qE P c t cs x→cs.length=ks.length→(Instr.checkKey em (d+m) t x).run P w=.ok () w
 | 0,_,_,_,hk=>by simp[flatK]at hk
 | m+1,d,t,ks,hk=>by
  intro w cs x hx cC
  unfold flatK at hk
  rw[show d+(m+1)=(d+m)+1 from rfl]
  split at hk
  all_goals first|cases hk|skip
  ·rename_i i hu hi
   simp[Instr.checkKey,run_underlying hu]
  ·rename_i q i hu hi
   simp[Instr.checkKey,run_underlying hu]
  ·rename_i i hu hi
   simp[Instr.checkKey,run_underlying hu]
  ·rename_i fs i hu hi
   split at hk
   ·rename_i bS
    split at hk
    ·rename_i kk uN
     split at hk
     ·cases hk
      simp only[qE,dO,hu,if_true]at hx
      obtain⟨vs,rfl,hv⟩:=hx
      rw[Instr.checkKey]
      simp only[Sem.run_bind,run_underlying hu,Result.andThen_ok]
      rw[←Array.forIn_toList]
      have key:∀(L:List Field) (o:Nat) (k:List Nat),yY (flatK P m) L o=some k→o+k.length≤cs.length →
        (forIn L PUnit.unit fun f (_ : PUnit) => (if f.name ≠ "_" then do Instr.checkKey em (d + m) f.type (← part f.type vs.toArray f.offset); pure (ForInStep.yield PUnit.unit) else pure (ForInStep.yield PUnit.unit) : Sem (ForInStep PUnit))).run P w = .ok PUnit.unit w := by
       intro L
       induction L with
       | nil=>intro o k _ _;simp
       | cons f L ih =>
        intro o k hg cD
        simp only[yY]at hg
        split at hg
        ·rename_i hc
         split at hg
         ·rename_i k1 LP
          split at hg
          ·rename_i k2 Jh
           cases hg
           rw[List.length_append]at cD
           obtain⟨y,p1,p2⟩:=pF (P:=P) LP hv (off:=o) (by omega) w
           have p3:=rK em m d f.type k1 LP w _ y p2 (by simp;omega)
           simp only[List.forIn_cons,Sem.run_bind,hc.1,ne_eq,not_false_eq_true,if_true,hc.2,p1,p3,Result.andThen_ok,Sem.run_pure]
           exact ih (o+k1.length) k2 Jh (by omega)
          ·cases hg
         ·cases hg
        ·cases hg
      have:=key fs.toList 0 _ uN (by omega)
      rw[this]
      rfl
     ·cases hk
    ·cases hk
   ·cases hk
  ·rename_i n e i hu hi
   split at hk
   ·split at hk
    ·rename_i kk uN
     split at hk
     ·cases hk
      simp only[qE,dO,hu,if_true]at hx
      obtain⟨vs,rfl,hv⟩:=hx
      obtain⟨ie,RR,hse⟩:=yX uN
      have PA:∀w,(sizeOf e).run P w=.ok kk.length w:=fun w=>by simp[sizeOf,typeInfo,RR,hse]
      rw[Instr.checkKey]
      simp only[Sem.run_bind,run_underlying hu,Result.andThen_ok]
      simp only[Std.Legacy.Range.forIn_eq_forIn_range',Std.Legacy.Range.size,Nat.sub_zero,Nat.add_one_sub_one,Nat.div_one]
      have key:∀(q s:Nat),(s+q)*kk.length≤cs.length→(forIn (List.range' s q) PUnit.unit fun i (_:PUnit)=>(do Instr.checkKey em (d+m) e (←part e vs.toArray (i*(←sizeOf e)));pure (ForInStep.yield PUnit.unit):Sem (ForInStep PUnit))).run P w=.ok PUnit.unit w:=by
       intro q
       induction q with
       | zero=>intro s _;simp
       | succ q ih =>
        intro s cD
        have G1:s*kk.length+kk.length≤cs.length:=by
         have:(s+1)*kk.length≤(s+(q+1))*kk.length:=Nat.mul_le_mul_right _ (by omega)
         rw[Nat.add_mul]at this;omega
        obtain⟨y,p1,p2⟩:=pF (P:=P) uN hv (off:=s*kk.length) G1 w
        have p3:=rK em m d e kk uN w _ y p2 (by simp;omega)
        simp only[List.range'_succ,List.forIn_cons,Sem.run_bind,PA,p1,p3,Result.andThen_ok,Sem.run_pure]
        exact ih (s+1) (by rw[show s+1+q=s+(q+1) by omega];exact cD)
      have:=key n 0 (by rw[Nat.zero_add,cC];simp[List.length_flatten])
      rw[this]
      rfl
     ·cases hk
    ·cases hk
   ·cases hk
theorem wD{t : TypeId}{q : EqT}(hq : eqT P t = some q){d : DV}{x : Value}(hv : VR c d x)(he : (eY q d d).isSome = true)(em : Bool)(w : World) : (Instr.checkKey em 10000 t x).run P w = .ok () w := by
  obtain⟨b, hb⟩ := Option.isSome_iff_exists.1 he
  have prim : ∀ desc, P.underlying t = some desc → desc = .bool ∨ (∃ k, desc = .int k) ∨ desc = .string → (Instr.checkKey em 10000 t x).run P w = .ok () w := by
    intro desc hu hd
    rw[show(10000 : Nat) = 9999 + 1 from rfl, Instr.checkKey]
    rcases hd with rfl | ⟨k, rfl⟩ | rfl <;> simp[run_underlying hu]
  unfold eqT at hq
  split at hq
  · rename_i hu; exact prim _ hu (.inl rfl)
  · rename_i hu; exact prim _ hu (.inr (.inl ⟨_, rfl⟩))
  · rename_i hu; exact prim _ hu (.inr (.inr rfl))
  all_goals first
    | (cases hq; done)
    | (rename_i hu
       simp only[Option.map_eq_some_iff]at hq
       obtain⟨ks, hks, rfl⟩ := hq
       cases hv <;> simp only[eY]at hb <;> first
         | (cases hb; done)
         | (rename_i ds vs hl h1 xB
            have cC := (kS _ _ _ _ hb).1
            exact rK (P := P) em 20 9980 t _ hks w _ _ (by simp only[qE, dO, hu, if_true]; exact⟨vs, rfl, by assumption, by assumption⟩) cC))
def rC(c:Ctx)(es:List (DV×DV))(ms:List MapEntry):Prop:=es.length=ms.length∧∀(i:Nat) (e:DV×DV) (m:MapEntry),es[i]?=some e→ms[i]?=some m→VR c e.1 m.key∧VR c e.2 m.val
theorem Ie{e:DV×DV}{es:List (DV×DV)}{m:MapEntry}{ms:List MapEntry}(hE:rC c (e::es) (m::ms)):rC c es ms :=
 ⟨by simpa using hE.1,fun i e' m' h1 h2=>hE.2 (i+1) e' m' (by simpa using h1) (by simpa using h2)⟩
def Xf(c:Ctx)(es:List (DV×DV))(i:Nat):Option (Nat×DV)→Option (Nat×Value)→Prop
 | none,none=>True
 | some (j,v),some (j',u)=>j=j'∧VR c v u∧i≤j∧j<i+es.length
 | _,_=>False
theorem sL{t:TypeId}{q:EqT}(hq:eqT P t=some q){d:DV}{x:Value}(hv:VR c d x)(w:World):∀(es:List (DV×DV)) (ms:List MapEntry) (i:Nat) (res:Option (Nat×DV)),rC c es ms→eV q d es i=some res →
  ∃ iN,(Instr.findAsking t x ms i).run P w=.ok iN w∧Xf c es i res iN
 | [],ms,i,res,hE,hf=>by
  cases ms with
  | nil=>simp only[eV]at hf;cases hf;exact⟨none,by simp[Instr.findAsking],trivial⟩
  | cons m ms=>simp[rC]at hE
 | e::es,ms,i,res,hE,hf=>by
  cases ms with
  | nil=>simp[rC]at hE
  | cons m ms =>
   obtain⟨k',v⟩:=e
   have h0:=hE.2 0 (k',v) m rfl rfl
   simp only[eV]at hf
   split at hf
   ·rename_i hb
    cases hf
    have:=zB (P:=P) hq hb hv h0.1 w
    exact⟨some (i,m.val),by simp[Instr.findAsking,this],rfl,h0.2,Nat.le_refl _,by simp⟩
   ·rename_i hb
    have:=zB (P:=P) hq hb hv h0.1 w
    obtain⟨iN,g1,g2⟩:=sL hq hv w es ms (i+1) res (Ie hE) hf
    refine⟨iN,by simp[Instr.findAsking,this,g1],?_⟩
    cases res<;>cases iN<;>simp only[Xf]at g2 ⊢
    obtain⟨a1,a2,a3,a4⟩:=g2
    exact⟨a1,a2,by omega,by simp only[List.length_cons];omega⟩
   ·cases hf
theorem nC{desc:TypeDesc}{k:Nat}(hd:(desc=.bool∧k=0)∨((∃ kk,desc=.int kk)∧k=1)∨(desc=.string∧k=2)){d:DV}{x:Value}(hv:VR c d x):∀(es:List (DV×DV)) (ms:List MapEntry) (i:Nat) (res:Option (Nat×DV)),rC c es ms→eV (.prim k) d es i=some res →
  ∃ iN,Instr.findNow desc x ms i=some iN∧Xf c es i res iN
 | [],ms,i,res,hE,hf=>by
  cases ms with
  | nil=>simp only[eV]at hf;cases hf;exact⟨none,by simp[Instr.findNow],trivial⟩
  | cons m ms=>simp[rC]at hE
 | e::es,ms,i,res,hE,hf=>by
  cases ms with
  | nil=>simp[rC]at hE
  | cons m ms =>
   obtain⟨k',v⟩:=e
   have h0:=hE.2 0 (k',v) m rfl rfl
   have same:∀b,eY (.prim k) d k'=some b→Instr.sameNow desc x m.key=some b:=by
    intro b hb
    have h1:=h0.1
    simp only at h1
    generalize m.key=mk at h1
    rcases hd with⟨rfl,rfl⟩|⟨⟨kk,rfl⟩,rfl⟩|⟨rfl,rfl⟩
    ·cases hv<;>cases h1<;>simp[eY,fH]at hb
     subst hb;simp[Instr.sameNow]
    ·cases hv<;>cases h1<;>simp[eY,fH]at hb
     obtain⟨rfl,rfl⟩:=hb;simp[Instr.sameNow]
    ·cases hv<;>cases h1<;>simp[eY,fH]at hb
     subst hb
     rename_i s1 s2
     have hq:((⟨s1.toArray⟩:ByteArray) == ⟨s2.toArray⟩)=(s1 == s2):=by rw[beq_toListBytes,Bw,Bw]
     simp[Instr.sameNow,hq]
   simp only[eV]at hf
   split at hf
   ·rename_i hb
    cases hf
    exact⟨some (i,m.val),by simp[Instr.findNow,same _ hb],rfl,h0.2,Nat.le_refl _,by simp⟩
   ·rename_i hb
    obtain⟨iN,g1,g2⟩:=nC hd hv es ms (i+1) res (Ie hE) hf
    refine⟨iN,by simp[Instr.findNow,same _ hb,g1],?_⟩
    cases res<;>cases iN<;>simp only[Xf]at g2 ⊢
    obtain⟨a1,a2,a3,a4⟩:=g2
    exact⟨a1,a2,by omega,by simp only[List.length_cons];omega⟩
   ·cases hf
theorem iK{t : TypeId}{q : EqT}(hq : eqT P t = some q){d : DV}{x : Value}(hv : VR c d x)(w : World){es : List (DV × DV)}{ms : List MapEntry}{res : Option (Nat × DV)}(hE : rC c es ms)(hf : eV q d es 0 = some res) :
    ∃ iN, (Instr.findKey t x ms).run P w = .ok iN w ∧ Xf c es 0 res iN := by
  have hq0 := hq
  unfold eqT at hq
  split at hq
  · rename_i hu; cases hq
    obtain⟨iN, g1, g2⟩ := nC (.inl ⟨rfl, rfl⟩) hv es ms 0 res hE hf
    exact⟨iN, by simp[Instr.findKey, run_underlying hu, g1], g2⟩
  · rename_i kk hu; cases hq
    obtain⟨iN, g1, g2⟩ := nC (desc := .int kk) (.inr (.inl ⟨⟨_, rfl⟩, rfl⟩)) hv es ms 0 res hE hf
    exact⟨iN, by simp[Instr.findKey, run_underlying hu, g1], g2⟩
  · rename_i hu; cases hq
    obtain⟨iN, g1, g2⟩ := nC (.inr (.inr ⟨rfl, rfl⟩)) hv es ms 0 res hE hf
    exact⟨iN, by simp[Instr.findKey, run_underlying hu, g1], g2⟩
  all_goals first
    | (cases hq; done)
    | (rename_i hu
       obtain⟨iN, g1, g2⟩ := sL (P := P) hq0 hv w es ms 0 res hE hf
       refine⟨iN, ?_, g2⟩
       rw[← g1]
       cases ms with
       | nil => simp[Instr.findKey, run_underlying hu, Instr.findNow, Instr.findAsking]
       | cons m ms => simp[Instr.findKey, run_underlying hu, Instr.findNow, Instr.sameNow])
theorem tL{q:EqT}{d:DV}:∀(es:List (DV×DV)) (n:Nat),pS q d es=some n→n=(es.filter fun e=>eY q d e.1 == some true).length∧∀e,e∈es→(eY q d e.1).isSome=true
 | [],n,hh=>by cases hh;exact⟨rfl,fun e he=>by cases he⟩
 | (k',v)::r,n,hh=>by
  simp only[pS]at hh
  split at hh
  ·rename_i m h1 h2
   cases hh
   obtain⟨i1,i2⟩:=tL r m h2
   refine⟨by simp[h1,←i1],fun e he=>?_⟩
   rcases List.mem_cons.1 he with rfl|he
   ·rw[h1];rfl
   ·exact i2 e he
  ·rename_i m h1 h2
   cases hh
   obtain⟨i1,i2⟩:=tL r n h2
   refine⟨by simp[h1,←i1],fun e he=>?_⟩
   rcases List.mem_cons.1 he with rfl|he
   ·rw[h1];rfl
   ·exact i2 e he
  ·cases hh
theorem vT{q:EqT}{d:DV}:∀(es:List (DV×DV)) (i:Nat),(∀e,e∈es→(eY q d e.1).isSome=true)→∃ res,eV q d es i=some res∧(res=none→∀e,e∈es→eY q d e.1=some false)
 | [],i,_=>⟨none,rfl,fun _ e he=>by cases he⟩
 | (k',v)::r,i,hh=>by
  obtain⟨b,hb⟩:=Option.isSome_iff_exists.1 (hh (k',v) (List.mem_cons_self ..))
  obtain⟨res,h1,h2⟩:=vT r (i+1) (fun e he=>hh e (List.mem_cons_of_mem _ he))
  cases b with
  | true=>exact⟨some (i,v),by simp only[eV];rw[hb],fun h=>by cases h⟩
  | false =>
   refine⟨res,by simp only[eV];rw[hb];exact h1,fun h e he=>?_⟩
   rcases List.mem_cons.1 he with rfl|he
   ·exact hb
   ·exact h2 h e he
theorem Bd{q:EqT}{d:DV}:∀(es:List (DV×DV)) (i j:Nat) (v:DV),eV q d es i=some (some (j,v))→∃ idx e,j=i+idx∧es[idx]?=some e∧e.2=v∧eY q d e.1=some true
 | [],i,j,v,hf=>by simp[eV]at hf
 | e::es,i,j,v,hf=>by
  obtain⟨k',v'⟩:=e
  simp only[eV]at hf
  split at hf
  ·rename_i hb
   cases hf
   exact⟨0,_,rfl,rfl,rfl,hb⟩
  ·obtain⟨idx,e,h1,h2,h3,h4⟩:=Bd es (i+1) j v hf
   exact⟨idx+1,e,by omega,by simpa using h2,h3,h4⟩
  ·cases hf
theorem mR{q:EqT}{d:DV}{es es':List (DV×DV)}(hp:es.Perm es'){res:Option (Nat×DV)}(hf:lO q d es=some res) :
  match res with
  | none=>eV q d es' 0=some none
  | some (i,v)=>∃ (j:Nat) (e:DV×DV),eV q d es' 0=some (some (j,v))∧es[i]?=some e∧es'[j]?=some e:=by
 unfold lO at hf
 split at hf
 ·rename_i n hn
  split at hf
  ·rename_i cD
   obtain⟨f1,f2⟩:=tL es n hn
   have hfl:(es.filter fun e=>eY q d e.1 == some true).length≤1:=by omega
   have hpf:=hp.filter (fun e=>eY q d e.1 == some true)
   obtain⟨iN,g1,g2⟩:=vT es' 0 (fun e he=>f2 e (hp.mem_iff.2 he))
   cases res with
   | none =>
    obtain⟨r0,k1,k2⟩:=vT es 0 f2
    rw[hf]at k1
    cases k1
    have Qa:=k2 rfl
    cases iN with
    | none=>exact g1
    | some p =>
     obtain⟨j,v⟩:=p
     obtain⟨idx,e,_,q2,_,q4⟩:=Bd es' 0 j v g1
     have:=Qa e (hp.mem_iff.2 (List.mem_of_getElem? q2))
     rw[this]at q4;cases q4
   | some p =>
    obtain⟨i,v⟩:=p
    obtain⟨idx,e,q1,q2,q3,q4⟩:=Bd es 0 i v hf
    rw[Nat.zero_add]at q1
    subst q1
    cases iN with
    | none =>
     have:=g2 rfl e (hp.mem_iff.1 (List.mem_of_getElem? q2))
     rw[this]at q4;cases q4
    | some p' =>
     obtain⟨j,v'⟩:=p'
     obtain⟨idx',e',r1,r2,r3,r4⟩:=Bd es' 0 j v' g1
     rw[Nat.zero_add]at r1
     subst r1
     have m1:e∈es.filter fun e=>eY q d e.1 == some true:=List.mem_filter.2 ⟨List.mem_of_getElem? q2,by simp[q4]⟩
     have m2:e'∈es.filter fun e=>eY q d e.1 == some true:=List.mem_filter.2 ⟨hp.mem_iff.2 (List.mem_of_getElem? r2),by simp[r4]⟩
     have Rk:e=e':=by
      generalize es.filter (fun e=>eY q d e.1 == some true)=F at m1 m2 hfl
      match F,hfl with
      | [],_=>cases m1
      | [x],_=>rw[List.mem_singleton.1 m1,List.mem_singleton.1 m2]
      | x::y::r,h=>simp at h
     subst Rk
     exact⟨j,e,by rw[←q3,r3];exact g1,q2,r2⟩
  ·cases hf
 ·cases hf
theorem mM{α:Type}:∀(l:List α) (i:Nat) (e:α),l[i]?=some e→l.Perm (e::l.eraseIdx i)
 | [],i,e,h=>by simp at h
 | a::l,0,e,h=>by simp at h;subst h;exact .refl _
 | a::l,i+1,e,h=>by
  have:=mM l i e (by simpa using h)
  exact(List.Perm.cons a this).trans (.swap _ _ _)
theorem Gt{α:Type}:∀(l:List α) (i:Nat) (e:α),i<l.length→(l.set i e).Perm (e::l.eraseIdx i)
 | [],i,e,h=>by simp at h
 | a::l,0,e,_=>.refl _
 | a::l,i+1,e,h=>by
  have:=Gt l i e (by simpa using h)
  exact(List.Perm.cons a this).trans (.swap _ _ _)
theorem Gu{α:Type}{l l':List α}(hp:l.Perm l'){i j:Nat}{e:α}(h1:l[i]?=some e)(h2:l'[j]?=some e):(l.eraseIdx i).Perm (l'.eraseIdx j) :=
 List.Perm.cons_inv ((mM l i e h1).symm.trans (hp.trans (mM l' j e h2)))
theorem Pb{α:Type}{l l':List α}(hp:l.Perm l'){i j:Nat}{e:α}(h1:l[i]?=some e)(h2:l'[j]?=some e)(x:α):(l.set i x).Perm (l'.set j x) :=
 (Gt l i x (List.getElem?_eq_some_iff.1 h1).1).trans ((List.Perm.cons x (Gu hp h1 h2)).trans (Gt l' j x (List.getElem?_eq_some_iff.1 h2).1).symm)
theorem Rel.mapo{h:aA}{c:Ctx}(hR:Rel h c){id:Nat}{es:List (DV×DV)}(hg:h.get id=some (.mp es)){b base:Nat}(hρ:c.ρ id=some (b,base)) :
  ∃ es' entries clock,es.Perm es'∧c.w.heap[b]?=some (.map entries clock)∧rC c es' entries.toList∧Bq entries clock:=by
 obtain⟨es',hp,b',entries,clock,h1,h2,h3,h4,h5⟩:=hR.obj id _ hg
 rw[hρ]at h1;cases h1
 refine⟨es',entries,clock,hp,h2,⟨by simpa using h3,fun i e m he hm=>?_⟩,h5⟩
 obtain⟨a1,rfl⟩:=List.getElem?_eq_some_iff.1 he
 rw[Array.getElem?_toList]at hm
 obtain⟨a2,rfl⟩:=Array.getElem?_eq_some_iff.1 hm
 exact h4 i a1 a2
theorem Dr{t key e:TypeId}{i:TypeInfo}{z0:Value}(hu:P.underlying t=some (.map key e))(hi:P.info? e=some i)(hz:i.zero=some z0){entries:Array MapEntry}{x idx:Value}{w:World}{ok:Bool}
  (nQ:(x=.map none∧entries=#[])∨∃ b clock,x=.map (some b)∧w.heap[b]?=some (.map entries clock)) (JJ:(Instr.checkKey entries.isEmpty 10000 key idx).run P w=.ok () w) {res:Option (Nat×Value)} (hfk:(Instr.findKey key idx entries.toList).run P w=.ok res w) :
  (Instr.lookup t x idx ok).run P w=.ok (match res with|some (_,v)=>if ok then .tuple #[v,.bool true]else v|none=>if ok then .tuple #[z0,.bool false]else z0) w:=by
 rcases nQ with⟨rfl,rfl⟩|⟨b,clock,rfl,hb⟩
 ·cases res with
  | none=>cases ok<;>simp_all[Instr.lookup,run_underlying hu,zeroValue,typeInfo]
  | some p=>obtain⟨j,v⟩:=p;cases ok<;>simp_all[Instr.lookup,run_underlying hu]
 ·have hg:(getObj b).run P w=.ok (.map entries clock) w:=by simp[getObj,Sem.run,hb]
  cases res with
  | none=>cases ok<;>simp[Instr.lookup,run_underlying hu,hg,JJ,hfk,zeroValue,typeInfo,hi,hz]
  | some p=>obtain⟨j,v⟩:=p;cases ok<;>simp[Instr.lookup,run_underlying hu,hg,JJ,hfk]
theorem YC{x y:DV}{vx vy:Value}(hx:VR c x vx)(hy:VR c y vy):VR c (.tup [x,y]) (.tuple #[vx,vy]):=by
 refine .tup (ds:=[x,y]) (vs:=[vx,vy]) rfl (fun i h1 h2=>?_)
 match i,h1,h2 with
 | 0,_,_=>exact hx
 | 1,_,_=>exact hy
theorem GE{t key e:TypeId}{sz bytes:Nat}{z:DV}{q:EqT}{ok:Bool}{x y:Operand}{x' y':Opd}(ho:o.op=.lookup t x y ok)(hu:P.underlying t=some (.map key e))(he:dT P e=some (sz,bytes,z))(hq:eqT P key=some q)
  (hx:opd x=some x') (hy:opd y=some y') (hR:Rel h c) (hE:bY c env a) (hs:aC h env (.lookup q z ok x' y')=some (r,h')):aX P h c o a h' r:=by
 have vx:=bD hx hE
 have vy:=bD hy hE
 obtain⟨i,z0,hi,e1,e2,hz,zM,dX,cS⟩:=eR he
 simp only[aC]at hs
 split at hs
 ·rename_i es Rj
  split at hs
  ·rename_i Hi
   have nQ:∃ (es':List (DV×DV)) (entries:Array MapEntry),es.Perm es'∧rC c es' entries.toList∧((a.eval x=.map none∧entries=#[])∨∃ b clock,a.eval x=.map (some b)∧c.w.heap[b]?=some (.map entries clock)):=by
    split at Rj
    ·rename_i hv
     cases Rj
     rw[hv]at vx
     exact⟨[],#[],.refl _,⟨rfl,by simp⟩,.inl ⟨vx.nmap_inv,rfl⟩⟩
    ·rename_i id hv
     split at Rj
     ·rename_i es' hg
      cases Rj
      rw[hv]at vx
      obtain⟨b,dD,hρ⟩:=vx.map_inv
      obtain⟨es',entries,clock,hp,h2,h3,_⟩:=hR.mapo hg hρ
      exact⟨es',entries,hp,h3,.inr ⟨b,clock,dD,h2⟩⟩
     ·cases Rj
    ·cases Rj
   obtain⟨es',entries,jX,jJ,nQ⟩:=nQ
   have JJ:=wD (P:=P) hq vy Hi entries.isEmpty c.w
   split at hs
   ·rename_i j v hf
    simp only[Option.some.injEq,Prod.mk.injEq]at hs
    obtain⟨rfl,rfl⟩:=hs
    obtain⟨j0,e0,hf',_,_⟩:=mR jX hf
    obtain⟨iN,g1,g2⟩:=iK (P:=P) hq vy c.w jJ hf'
    cases iN with
    | none=>exact g2.elim
    | some p =>
     obtain⟨j',u⟩:=p
     have gB:=Dr (P:=P) (ok:=ok) hu hi hz nQ JJ g1
     refine aX.value (if ok then .tuple #[u,.bool true]else u) (by simp[execOp,ho,gB]) ?_
     cases ok
     ·exact g2.2.1
     ·exact YC g2.2.1 (.bool true)
   ·rename_i hf
    simp only[Option.some.injEq,Prod.mk.injEq]at hs
    obtain⟨rfl,rfl⟩:=hs
    obtain⟨iN,g1,g2⟩:=iK (P:=P) hq vy c.w jJ (mR jX hf)
    cases iN with
    | some p=>exact g2.elim
    | none =>
     have gB:=Dr (P:=P) (ok:=ok) hu hi hz nQ JJ g1
     refine aX.value (if ok then .tuple #[z0,.bool false]else z0) (by simp[execOp,ho,gB]) ?_
     cases ok
     ·exact eD zM c
     ·exact YC (eD zM c) (.bool false)
   ·cases hs
  ·cases hs
 ·cases hs
theorem Y9{t:TypeId}(ho:o.op=.makeMap t none)(hR:Rel h c)(_hE:bY c env a)(hs:aC h env .makeMap=some (r,h')):fE P h c o a h' r:=by
 simp only[aC,Option.some.injEq,Prod.mk.injEq]at hs
 obtain⟨rfl,rfl⟩:=hs
 obtain⟨k1,k2⟩:=hR.push (.mp []) {c.w with heap:=c.w.heap.push (.map #[] 0)} c.w.heap.size 0 (Nat.le_refl _) (by simp) (fun k hk=>by simp[Array.getElem?_push];omega) (.push rfl trivial rfl rfl) (fun cD=>by
  exact⟨[],.refl _,c.w.heap.size,#[],0,by simp[Ctx.next],(by show(c.w.heap.push (.map #[] 0))[c.w.heap.size]?=_;simp),rfl,fun i h1 _=>absurd h1 (by simp),⟨fun e he=>by simp at he,by simp⟩⟩)
 refine⟨.value (.map (some c.w.heap.size)),_,{c.w with heap:=c.w.heap.push (.map #[] 0)},by simp[execOp,ho,Instr.makeMap],.inl rfl,_,k1,k2,.map (by simp[Ctx.next])⟩
theorem Su{q:EqT}{d d':DV}{x x':Value}(hb:eY q d d'=some true)(hx:VR c d x)(uL:VR c d' x')(n:Nat):Instr.sameBits (n+1) x' x=true:=by
 have prim:∀(k n:Nat) (e e':DV) (u u':Value),fH k e e'=some true→VR c e u→VR c e' u'→Instr.sameBits n u' u=true:=by
  intro k n e e' u u' hp hu RJ
  cases hu<;>cases RJ<;>simp[fH]at hp
  ·obtain⟨_,rfl⟩:=hp;simp[Instr.sameBits]
  ·obtain⟨⟨_,rfl⟩,rfl⟩:=hp;simp[Instr.sameBits]
  ·obtain⟨_,rfl⟩:=hp;simp only[Instr.sameBits];rw[beq_toListBytes];simp
 cases q with
 | prim k=>exact prim k _ _ _ _ _ hb hx uL
 | agg ks =>
  cases hx<;>simp only[eY]at hb<;>try (cases hb;done)
  cases uL<;>simp only at hb<;>try (cases hb;done)
  rename_i ds vs hl h1 hv ds' vs' G2 JL hv'
  have cC:vs.length=vs'.length:=by
   have:=kS _ _ _ _ hb
   first|omega|(simp_all)
  have all:∀(ks:List Nat) (ds ds':List DV) (vs vs':List Value),VRs c ds vs→VRs c ds' vs'→bT ks ds ds'=some true→(vs'.zip vs).all (fun(x,y)=>Instr.sameBits n x y)=true:=by
   intro ks
   induction ks with
   | nil =>
    intro ds ds' vs vs' g1 g2 g3
    cases ds<;>cases ds'<;>simp[bT]at g3
    have:vs=[]:=List.eq_nil_of_length_eq_zero g1.1.symm
    subst this
    simp
   | cons k ks ih =>
    intro ds ds' vs vs' g1 g2 g3
    cases ds with
    | nil=>simp[bT]at g3
    | cons e ds =>
     cases ds' with
     | nil=>simp[bT]at g3
     | cons e' ds' =>
      cases vs with
      | nil=>have:=g1.1;simp at this
      | cons v vs =>
       cases vs' with
       | nil=>have:=g2.1;simp at this
       | cons v' vs' =>
        simp only[bT]at g3
        split at g3
        ·rename_i b hbb
         split at g3
         ·rename_i b' Kh
          simp only[Option.some.injEq,Bool.and_eq_true]at g3
          obtain⟨rfl,rfl⟩:=g3
          have t1:VRs c ds vs:=⟨by simpa using g1.1,fun i h1 h2=>by have:=g1.2 (i+1) (by simpa using h1) (by simpa using h2);simpa using this⟩
          have t2:VRs c ds' vs':=⟨by simpa using g2.1,fun i h1 h2=>by have:=g2.2 (i+1) (by simpa using h1) (by simpa using h2);simpa using this⟩
          have p0:=prim k n e e' v v' hbb (g1.2 0 (by simp) (by simp)) (g2.2 0 (by simp) (by simp))
          simp only[List.zip_cons_cons,List.all_cons,Bool.and_eq_true]
          exact⟨p0,ih ds ds' vs vs' t1 t2 Kh⟩
         ·cases g3
        ·cases g3
  have:=all ks ds ds' vs vs' ⟨by assumption,by assumption⟩ ⟨by assumption,by assumption⟩ hb
  simp only[Instr.sameBits,List.size_toArray,cC,Bool.and_eq_true,beq_self_eq_true,true_and]
  exact this
theorem Hw{q:EqT}{d:DV}:∀(es:List (DV×DV)) (i j:Nat) (v:DV),eV q d es i=some (some (j,v))→∃ idx e,j=i+idx∧es[idx]?=some e∧eY q d e.1=some true
 | [],i,j,v,hf=>by simp[eV]at hf
 | e::es,i,j,v,hf=>by
  obtain⟨k',v'⟩:=e
  simp only[eV]at hf
  split at hf
  ·rename_i hb
   cases hf
   exact⟨0,_,rfl,rfl,hb⟩
  ·obtain⟨idx,e,h1,h2,h3⟩:=Hw es (i+1) j v hf
   exact⟨idx+1,e,by omega,by simpa using h2,h3⟩
  ·cases hf
theorem Bq.modify{en:Array MapEntry}{clk:Nat}(hb:Bq en clk){f:MapEntry→MapEntry}(j:Nat)(hf:∀e,(f e).born=e.born):Bq (en.modify j f) clk:=by
 have e1:(en.modify j f).toList.map (·.born)=en.toList.map (·.born):=by
  apply List.ext_getElem?
  intro i
  simp only[List.getElem?_map,Array.getElem?_toList,Array.getElem?_modify]
  split
  ·cases en[i]? with
   | none=>rfl
   | some e=>simp[hf]
  ·rfl
 refine⟨fun e he=>?_,by rw[e1];exact hb.inc⟩
 have h1:e.born∈(en.modify j f).toList.map (·.born):=List.mem_map_of_mem he
 rw[e1]at h1
 obtain⟨e2,h2,h3⟩:=List.mem_map.1 h1
 rw[←h3];exact hb.lt e2 h2
theorem Bq.push{en:Array MapEntry}{clk:Nat}(hb:Bq en clk){e:MapEntry}(he:e.born=clk):Bq (en.push e) (clk+1):=by
 refine⟨fun x hx=>?_,?_⟩
 ·simp only[Array.toList_push,List.mem_append,List.mem_singleton]at hx
  rcases hx with hx|rfl
  ·exact Nat.lt_succ_of_lt (hb.lt x hx)
  ·omega
 ·simp only[Array.toList_push,List.map_append,List.map_cons,List.map_nil]
  refine List.pairwise_append.2 ⟨hb.inc,List.pairwise_singleton _ _,fun a ha b Kh=>?_⟩
  obtain⟨x,hx,rfl⟩:=List.mem_map.1 ha
  rw[List.mem_singleton.1 Kh,he]
  exact hb.lt x hx
theorem Bq.erase{en:Array MapEntry}{clk:Nat}(hb:Bq en clk)(i:Nat):Bq (en.eraseIdxIfInBounds i) clk:=by
 have e1:(en.eraseIdxIfInBounds i).toList=en.toList.eraseIdx i:=by
  unfold Array.eraseIdxIfInBounds
  split
  ·simp
  ·rw[List.eraseIdx_of_length_le (by simp;omega)]
 refine⟨fun e he=>hb.lt e ?_,?_⟩
 ·rw[e1]at he;exact List.mem_of_mem_eraseIdx he
 ·rw[e1]
  exact hb.inc.sublist ((List.eraseIdx_sublist _ _).map _)
theorem Ag(hR:Rel h c){id:Nat}{es es1 es':List (DV×DV)}(hp:es1.Perm es')(hg:h.get id=some (.mp es)){b base:Nat}(hρ:c.ρ id=some (b,base)){entries entries':Array MapEntry}{clock clock':Nat}(h2:c.w.heap[b]?=some (.map entries clock))(jJ:rC c es' entries'.toList)(oO:Bq entries' clock') :
  jS h c (h.set id (.mp es1)) {c.w with heap:=c.w.heap.setIfInBounds b (.map entries' clock')} (.tup []) undef:=by
 have hb:=(Array.getElem?_eq_some_iff.1 h2).1
 have hbase:base=0:=by
  obtain⟨_,_,b',en,cl,q1,q2,q3,q4,_⟩:=hR.obj id _ hg
  rw[hρ]at q1;cases q1;rfl
 subst hbase
 obtain⟨k1,k2⟩:=hR.set (.mp es1) hg rfl rfl hρ {c.w with heap:=c.w.heap.setIfInBounds b (.map entries' clock')} (by simp) (fun k hk=>by simp[Array.getElem?_setIfInBounds_ne (Ne.symm hk)]) (fun e n hs=>by simp[World.shape?,h2]at hs) (.at h2 (ob':=.map entries' clock') (by simp[hb]) (fun k hk=>by simp[Array.getElem?_setIfInBounds_ne (Ne.symm hk)]) trivial trivial rfl rfl) (fun cD=>by
  refine⟨es',hp,b,entries',clock',hρ,by simp[Ctx.next,hb],by simpa using jJ.1,fun i a1 a2=>?_,oO⟩
  have:=jJ.2 i _ _ (List.getElem?_eq_getElem a1) (by rw[Array.getElem?_toList];exact Array.getElem?_eq_getElem a2)
  exact⟨this.1.mono cD,this.2.mono cD⟩)
 exact⟨_,k1,k2,.tup (ds:=[]) (vs:=[]) rfl (fun i h1 _=>absurd h1 (by simp))⟩
theorem sZ{b:Nat}{w:World}{entries:Array MapEntry}{clock:Nat}(h2:w.heap[b]?=some (.map entries clock))(ob:Obj):(setObj b ob).run P w=.ok () {w with heap:=w.heap.setIfInBounds b ob}:=by
 simp[setObj,Sem.run,h2]
theorem Dq{t key e:TypeId}{q:EqT}{x y v:Operand}{x' y' v':Opd}(ho:o.op=.mapUpdate t x y v∨o.op=.insert t x y v)(hu:P.underlying t=some (.map key e))(hq:eqT P key=some q)
  (hx:opd x=some x') (hy:opd y=some y') (hv:opd v=some v') (hR:Rel h c) (hE:bY c env a) (hs:aC h env (.mapUpdate q x' y' v')=some (r,h')):fE P h c o a h' r:=by
 have vx:=bD hx hE
 have vy:=bD hy hE
 have vv:=bD hv hE
 have LV:execOp a.eval o=(do Instr.mapUpdate t (a.eval x) (a.eval y) (a.eval v);pure .skip):=by rcases ho with ho|ho<;>simp[execOp,ho]
 simp only[aC]at hs
 split at hs
 ·rename_i id eF
  split at hs
  ·rename_i es hg
   split at hs
   ·rename_i bS
    obtain⟨bJ,Hi⟩:=bS
    rw[eF]at vx
    obtain⟨b,dD,hρ⟩:=vx.map_inv
    obtain⟨es',entries,clock,jX,h2,jJ,oO⟩:=hR.mapo hg hρ
    have JJ:=wD (P:=P) hq vy Hi false c.w
    have Fe:(getObj b).run P c.w=.ok (.map entries clock) c.w:=by simp[getObj,Sem.run,h2]
    split at hs
    ·rename_i i0 u hf
     simp only[Option.some.injEq,Prod.mk.injEq]at hs
     obtain⟨rfl,rfl⟩:=hs
     obtain⟨j,e1,hf',uJ,LT⟩:=mR jX hf
     obtain⟨iN,g1,g2⟩:=iK (P:=P) hq vy c.w jJ hf'
     obtain⟨idx,e0,q1,q2,q3⟩:=Hw es' 0 j u hf'
     rw[Nat.zero_add]at q1
     subst q1
     have BU:=Pb jX uJ LT (y'.eval env,v'.eval env)
     generalize sK:es.set i0 (y'.eval env,v'.eval env)=es1 at BU
     cases iN with
     | none=>exact g2.elim
     | some p =>
      obtain⟨j',u'⟩:=p
      obtain⟨rfl,_,_,Ve⟩:=g2
      rw[Nat.zero_add]at Ve
      have hjl':j<entries.size:=by have:=jJ.1;simp at this;omega
      have hek:entries[j]?=some entries[j]:=Array.getElem?_eq_getElem hjl'
      have hent0:=jJ.2 j e0 entries[j] q2 (by rw[Array.getElem?_toList];exact hek)
      have mB:=Su (c:=c) q3 vy hent0.1 9999
      have PA:=sZ (P:=P) h2 (.map (entries.modify j fun en=>{en with key:=a.eval y,val:=a.eval v}) clock)
      refine⟨.skip,undef,_,?_,.inr ⟨rfl,rfl⟩,Ag hR BU hg hρ h2 (entries':=entries.modify j fun en=>{en with key:=a.eval y,val:=a.eval v}) (clock':=clock) ?_ (oO.modify _ (fun _=>rfl))⟩
      ·rw[LV]
       have Hl:(Instr.keyThatStays entries[j].key (a.eval y)).run P c.w=.ok (a.eval y) c.w:=by simp[Instr.keyThatStays,mB]
       simp only[Instr.mapUpdate,dD,Sem.run_bind,run_underlying hu,Result.andThen_ok,Fe,JJ,g1,hek,Option.map_some,Option.getD_some,Hl,PA,Sem.run_pure]
      ·refine⟨by simp[jJ.1],fun k e1 m1 h3 h4=>?_⟩
       rw[List.getElem?_set]at h3
       rw[Array.getElem?_toList,Array.getElem?_modify]at h4
       by_cases hk:j=k
       ·subst hk
        rw[if_pos rfl,if_pos Ve]at h3
        rw[if_pos rfl,hek]at h4
        cases h3;cases h4
        exact⟨vy,vv⟩
       ·rw[if_neg hk]at h3 h4
        exact jJ.2 k e1 m1 h3 (by rw[Array.getElem?_toList];exact h4)
    ·rename_i hf
     simp only[Option.some.injEq,Prod.mk.injEq]at hs
     obtain⟨rfl,rfl⟩:=hs
     obtain⟨iN,g1,g2⟩:=iK (P:=P) hq vy c.w jJ (mR jX hf)
     have BU:(es++[(y'.eval env,v'.eval env)]).Perm (es'++[(y'.eval env,v'.eval env)]):=jX.append_right _
     generalize sK:es++[(y'.eval env,v'.eval env)]=es1 at BU
     cases iN with
     | some p=>exact g2.elim
     | none =>
      have PA:=sZ (P:=P) h2 (.map (entries.push {key:=a.eval y,val:=a.eval v,born:=clock}) (clock+1))
      refine⟨.skip,undef,_,?_,.inr ⟨rfl,rfl⟩,Ag hR BU hg hρ h2 (entries':=entries.push {key:=a.eval y,val:=a.eval v,born:=clock}) (clock':=clock+1) ?_ (oO.push rfl)⟩
      ·rw[LV]
       simp only[Instr.mapUpdate,dD,Sem.run_bind,run_underlying hu,Result.andThen_ok,Fe,JJ,g1,PA,Sem.run_pure]
      ·have hl:=jJ.1
       refine⟨by simp at hl ⊢;exact hl,fun k e1 m1 h3 h4=>?_⟩
       rw[List.getElem?_append]at h3
       rw[Array.getElem?_toList,Array.getElem?_push]at h4
       have G2:es'.length=entries.size:=by simpa using hl
       split at h3
       ·rw[if_neg (by omega)]at h4
        exact jJ.2 k e1 m1 h3 (by rw[Array.getElem?_toList];exact h4)
       ·have hk:k=es'.length:=by
         have:=(List.getElem?_eq_some_iff.1 h3).1
         simp at this;omega
        subst hk
        rw[if_pos (by omega)]at h4
        simp at h3
        cases h4;subst h3
        exact⟨vy,vv⟩
    ·cases hs
   ·cases hs
  ·cases hs
 ·cases hs
theorem GH{t u key e:TypeId}{q:EqT}{x y:Operand}{x' y':Opd}(ho:o.op=.call {callee:=.builtin .delete,args:=#[x,y],argTypes:=#[t,u]})(hu:P.underlying t=some (.map key e))(hq:eqT P key=some q)
  (hx:opd x=some x') (hy:opd y=some y') (hR:Rel h c) (hE:bY c env a) (hs:aC h env (.delete q x' y')=some (r,h')):fE P h c o a h' r:=by
 have vx:=bD hx hE
 have vy:=bD hy hE
 simp only[aC]at hs
 split at hs
 ·rename_i id eF
  split at hs
  ·rename_i es hg
   split at hs
   ·rename_i bS
    obtain⟨bJ,Hi⟩:=bS
    rw[eF]at vx
    obtain⟨b,dD,hρ⟩:=vx.map_inv
    obtain⟨es',entries,clock,jX,h2,jJ,oO⟩:=hR.mapo hg hρ
    have JJ:=wD (P:=P) hq vy Hi entries.isEmpty c.w
    have Fe:(getObj b).run P c.w=.ok (.map entries clock) c.w:=by simp[getObj,Sem.run,h2]
    split at hs
    ·rename_i i0 w0 hf
     simp only[Option.some.injEq,Prod.mk.injEq]at hs
     obtain⟨rfl,rfl⟩:=hs
     obtain⟨j,e1,hf',uJ,LT⟩:=mR jX hf
     obtain⟨iN,g1,g2⟩:=iK (P:=P) hq vy c.w jJ hf'
     cases iN with
     | none=>exact g2.elim
     | some p =>
      obtain⟨j',u'⟩:=p
      obtain⟨rfl,_,_,Ve⟩:=g2
      have PA:=sZ (P:=P) h2 (.map (entries.eraseIdxIfInBounds j) clock)
      have hl:es'.length=entries.size:=by simpa using jJ.1
      have hjl':j<entries.size:=by omega
      have hlist:(entries.eraseIdxIfInBounds j).toList=entries.toList.eraseIdx j:=by simp[Array.eraseIdxIfInBounds,hjl']
      refine⟨.value (.tuple #[]),(.tuple #[]),_,?_,.inl rfl,Ag hR (Gu jX uJ LT) hg hρ h2 (entries':=entries.eraseIdxIfInBounds j) (clock':=clock) ?_ (oO.erase j)⟩
      ·rw[cG ho]
       simp[builtin,Builtin.delete_,run_underlying hu,dD,Fe,JJ,g1,PA]
      ·rw[hlist]
       refine⟨by rw[List.length_eraseIdx_of_lt (by omega),List.length_eraseIdx_of_lt (by simpa using hjl')];simp[hl],fun k e1 m1 h3 h4=>?_⟩
       rw[List.getElem?_eraseIdx]at h3 h4
       split at h3
       ·rename_i hk;rw[if_pos hk]at h4;exact jJ.2 _ _ _ h3 h4
       ·rename_i hk;rw[if_neg hk]at h4;exact jJ.2 _ _ _ h3 h4
    ·rename_i hf
     simp only[Option.some.injEq,Prod.mk.injEq]at hs
     obtain⟨rfl,rfl⟩:=hs
     obtain⟨iN,g1,g2⟩:=iK (P:=P) hq vy c.w jJ (mR jX hf)
     cases iN with
     | some p=>exact g2.elim
     | none =>
      have PA:=sZ (P:=P) h2 (.map entries clock)
      refine⟨.value (.tuple #[]),(.tuple #[]),_,?_,.inl rfl,Ag hR jX hg hρ h2 (entries':=entries) (clock':=clock) jJ oO⟩
      rw[cG ho]
      simp[builtin,Builtin.delete_,run_underlying hu,dD,Fe,JJ,g1,PA]
    ·cases hs
   ·cases hs
  ·cases hs
 ·cases hs
end
end Go.Dm
