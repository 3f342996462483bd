/- A part of the proof. -/
import Derived.Test.YtfkbogedodngeaaGreatMm0
import Derived.ChangeKeysEq
import Derived.Lib.AppendZerosOnto
set_option linter.all false
namespace Go.Dm
section
variable {P:Program} {h h':aA} {c:Ctx} {env:Env} {a:Act} {o:Oper} {r:DV}
theorem vT:∀(k1 k2:List Nat) (xs ys:List DV) (b:Bool),cC (k1++k2) xs ys=some b →
  ∃ b1 b2,cC k1 (xs.take k1.length) (ys.take k1.length)=some b1∧cC k2 (xs.drop k1.length) (ys.drop k1.length)=some b2∧b=(b1 && b2):=by
 intro k1
 induction k1 with
 | nil=>intro k2 xs ys b hh;exact⟨true,b,by simp[cC],by simpa using hh,by simp⟩
 | cons k k1 ih =>
  intro k2 xs ys b hh
  cases xs with
  | nil=>simp[cC]at hh
  | cons x xs =>
   cases ys with
   | nil=>simp[cC]at hh
   | cons y ys =>
    simp only[List.cons_append,cC]at hh
    split at hh
    ·rename_i b0 hb0
     split at hh
     ·rename_i b' Ip
      obtain⟨b1,b2,h1,h2,rfl⟩:=ih k2 xs ys b' Ip
      cases hh
      exact⟨b0 && b1,b2,by simp[cC,hb0,h1],by simpa using h2,by rw[Bool.and_assoc]⟩
     ·cases hh
    ·cases hh
theorem lO:∀(ks:List Nat) (xs ys:List DV) (b:Bool),cC ks xs ys=some b→xs.length=ks.length∧ys.length=ks.length:=by
 intro ks
 induction ks with
 | nil=>intro xs ys b hh;cases xs<;>cases ys<;>simp_all[cC]
 | cons k ks ih =>
  intro xs ys b hh
  cases xs with
  | nil=>simp[cC]at hh
  | cons x xs =>
   cases ys with
   | nil=>simp[cC]at hh
   | cons y ys =>
    simp only[cC]at hh
    split at hh
    ·split at hh
     ·rename_i b' Ip
      have:=ih xs ys b' Ip
      simp[this.1,this.2]
     ·cases hh
    ·cases hh
def dX(P:Program)(t:TypeId):Bool:=match P.underlying t with|some (.struct _)|some (.array _ _)=>true|_=>false
def pY(P:Program)(c:Ctx)(t:TypeId)(cs:List DV)(x:Value):Prop :=
 if dX P t then ∃ vs:List Value,x=.agg vs.toArray∧VRs c cs vs else ∃ d,cs=[d]∧VR c d x
def EqF(P:Program)(dd:Nat)(t:TypeId)(ks:List Nat):Prop :=
 ∀(c:Ctx) (cs ds:List DV) (x y:Value) (b:Bool) (w:World),pY P c t cs x→pY P c t ds y→cC ks cs ds=some b→(Op.equalIn dd t x y).run P w=.ok b w
theorem vI:∀{d:Nat} {t:TypeId} {ks:List Nat},flatK P d t=some ks→(∃ i,P.info? t=some i∧i.size=ks.length)∧0<ks.length
 | 0,t,ks,hk=>by simp[flatK]at hk
 | d+1,t,ks,hk=>by
  unfold flatK at hk
  split at hk
  all_goals first|cases hk|skip
  ·rename_i i _ hi;split at hk<;>cases hk;exact⟨⟨i,hi,by assumption⟩,by simp⟩
  ·rename_i i _ hi;split at hk<;>cases hk;exact⟨⟨i,hi,by assumption⟩,by simp⟩
  ·rename_i i _ hi;split at hk<;>cases hk;exact⟨⟨i,hi,by assumption⟩,by simp⟩
  ·rename_i fs i _ hi
   split at hk
   ·split at hk
    ·split at hk
     ·rename_i hs;cases hk;exact⟨⟨i,hi,hs.1⟩,hs.2⟩
     ·cases hk
    ·cases hk
   ·cases hk
  ·rename_i n e i _ hi
   split at hk
   ·split at hk
    ·split at hk
     ·rename_i ks' hks' hs
      cases hk
      have:=(vI hks').2
      refine⟨⟨i,hi,?_⟩,?_⟩
      ·rw[hs.1]
       simp[List.length_flatten]
      ·simp[List.length_flatten,Nat.mul_pos hs.2 this]
     ·cases hk
    ·cases hk
   ·cases hk
theorem xY{d:Nat}{t:TypeId}{ks:List Nat}(hk:flatK P d t=some ks):∃ i,P.info? t=some i∧i.size=ks.length:=(vI hk).1
theorem Lh{d:Nat}{t:TypeId}{ks:List Nat}(hk:flatK P d t=some ks):0<ks.length:=(vI hk).2
theorem O1{t:TypeId}{i:TypeInfo}(_hi:P.info? t=some i){w:World}(hu:∃ d,P.underlying t=some d):(isAgg t).run P w=.ok (dX P t) w:=by
 obtain⟨d,hu⟩:=hu
 simp only[isAgg,Sem.run_bind,run_underlying hu,Result.andThen_ok,dX,hu]
 cases d<;>rfl
theorem U3{d:Nat}{t:TypeId}{ks:List Nat}(hk:flatK P d t=some ks):∃ d,P.underlying t=some d:=by
 cases d with
 | zero=>simp[flatK]at hk
 | succ d =>
  unfold flatK at hk
  split at hk
  all_goals first|cases hk|exact⟨_,by assumption⟩
theorem Zj{d:Nat}{t:TypeId}{ks:List Nat}(hk:flatK P d t=some ks)(ha:dX P t=false):ks.length=1:=by
 cases d with
 | zero=>simp[flatK]at hk
 | succ d =>
  unfold flatK at hk
  split at hk
  all_goals first|cases hk|skip
  ·split at hk<;>cases hk;rfl
  ·split at hk<;>cases hk;rfl
  ·split at hk<;>cases hk;rfl
  ·rename_i hu _;simp[dX,hu]at ha
  ·rename_i hu _;simp[dX,hu]at ha
theorem pG{d:Nat}{t:TypeId}{ks:List Nat}(hk:flatK P d t=some ks){cs:List DV}{vs:List Value}(hv:VRs c cs vs){off:Nat}(cM:off+ks.length≤cs.length)(w:World) :
  ∃ x,(part t vs.toArray off).run P w=.ok x w∧pY P c t ((cs.drop off).take ks.length) x:=by
 obtain⟨i,hi,eI⟩:=xY hk
 have KV:=O1 hi (w:=w) (U3 hk)
 have hl:=hv.1
 unfold pY
 cases hA:dX P t
 ·have h1:=Zj hk hA
  rw[hA]at KV
  have aY:off<cs.length:=by omega
  have tM:off<vs.length:=by omega
  refine⟨vs[off],by simp[part,KV,tM],?_⟩
  simp only[Bool.false_eq_true,if_false]
  refine⟨cs[off],?_,hv.2 off aY tM⟩
  rw[h1,List.take_one,List.head?_drop,List.getElem?_eq_getElem aY]
  rfl
 ·rw[hA]at KV
  refine⟨.agg (vs.toArray.extract off (off+i.size)),by simp[part,KV,sizeOf,typeInfo,hi],?_⟩
  simp only[if_true]
  refine⟨(vs.drop off).take ks.length,?_,by simp[hl],fun j h1 h2=>?_⟩
  ·rw[List.extract_toArray,List.extract_eq_take_drop,eI]
   congr 2
   simp
  ·simp only[List.getElem_take,List.getElem_drop]
   exact hv.2 _ _ _
theorem xH(dd:Nat){d:Nat}{cs ds:List DV}{vs us:List Value}(hv:VRs c cs vs)(hu:VRs c ds us)(w:World):∀(fs:List Field) (off:Nat) (ks:List Nat) (b:Bool),
  (∀f∈fs,∀k,flatK P d f.type=some k→EqF P dd f.type k)→xZ (flatK P d) fs off=some ks→cC ks (cs.drop off) (ds.drop off)=some b →
  (Op.eqFields dd vs.toArray us.toArray fs).run P w=.ok b w
 | [],off,ks,b,_,hg,he=>by
  simp only[xZ]at hg
  cases hg
  have:=lO _ _ _ _ he
  cases Dy:cs.drop off<;>cases Cn:ds.drop off<;>rw[Dy,Cn]at he<;>simp[cC]at he
  subst he
  simp[Op.eqFields]
 | f::fs,off,ks,b,gO,hg,he=>by
  simp only[xZ]at hg
  split at hg
  ·rename_i bU
   split at hg
   ·rename_i k1 Z1
    split at hg
    ·rename_i k2 wN
     cases hg
     obtain⟨b1,b2,e1,e2,rfl⟩:=vT _ _ _ _ _ he
     have cB:=lO _ _ _ _ e1
     simp only[List.length_take,List.length_drop]at cB
     have uG:=Lh Z1
     obtain⟨x,px,rx⟩:=pG (P:=P) Z1 hv (off:=off) (by omega) w
     obtain⟨y,py,ry⟩:=pG (P:=P) Z1 hu (off:=off) (by omega) w
     have hr:=gO f (by simp) k1 Z1 c _ _ x y b1 w rx ry e1
     have ih:=xH dd hv hu w fs (off+k1.length) k2 b2 (fun g hgm=>gO g (by simp[hgm])) wN (by rw[←List.drop_drop,←List.drop_drop];exact e2)
     simp only[Op.eqFields,bU.1,ne_eq,not_false_eq_true,if_true,Sem.run_bind,bU.2,px,py,hr,Result.andThen_ok]
     cases b1
     ·simp
     ·simpa using ih
    ·cases hg
   ·cases hg
  ·cases hg
theorem Af(dd:Nat){d:Nat}{e:TypeId}{ks:List Nat}(hk:flatK P d e=some ks)(IH:EqF P dd e ks){cs ds:List DV}{vs us:List Value}(hv:VRs c cs vs)(hu:VRs c ds us)(w:World):∀(n i:Nat) (b:Bool),
  cC (List.replicate n ks).flatten (cs.drop (i*ks.length)) (ds.drop (i*ks.length))=some b→(Op.eqItems dd e ks.length vs.toArray us.toArray (List.range' i n)).run P w=.ok b w
 | 0,i,b,he=>by
  have:=lO _ _ _ _ he
  simp only[List.replicate_zero,List.flatten_nil]at he
  cases Dy:cs.drop (i*ks.length)<;>cases Cn:ds.drop (i*ks.length)<;>rw[Dy,Cn]at he<;>simp[cC]at he
  subst he
  simp[Op.eqItems]
 | n+1,i,b,he=>by
  simp only[List.replicate_succ,List.flatten_cons]at he
  obtain⟨b1,b2,e1,e2,rfl⟩:=vT _ _ _ _ _ he
  have cB:=lO _ _ _ _ e1
  simp only[List.length_take,List.length_drop]at cB
  have uG:=Lh hk
  obtain⟨x,px,rx⟩:=pG (P:=P) hk hv (off:=i*ks.length) (by omega) w
  obtain⟨y,py,ry⟩:=pG (P:=P) hk hu (off:=i*ks.length) (by omega) w
  have hr:=IH c _ _ x y b1 w rx ry e1
  have ih:=Af dd hk IH hv hu w n (i+1) b2 (by rw[Nat.add_mul,Nat.one_mul,←List.drop_drop,←List.drop_drop];exact e2)
  simp only[List.range'_succ,Op.eqItems,Sem.run_bind,px,py,hr,Result.andThen_ok]
  cases b1
  ·simp
  ·simpa using ih
theorem Hl:∀(m d:Nat) (t:TypeId) (ks:List Nat),flatK P m t=some ks→EqF P (d+m) t ks
 | 0,d,t,ks,hk=>by simp[flatK]at hk
 | m+1,d,t,ks,hk=>by
  intro c cs ds x y b w hx hy he
  have Th:=hk
  unfold flatK at hk
  split at hk
  all_goals first|cases hk|skip
  ·rename_i i hu hi
   split at hk<;>cases hk
   simp only[pY,dX,hu,Bool.false_eq_true,if_false]at hx hy
   obtain⟨dx,rfl,vx⟩:=hx
   obtain⟨dy,rfl,vy⟩:=hy
   cases vx<;>cases vy<;>simp[cC,fX]at he
   subst he
   exact run_equalIn_bool' w (d+m) t _ _ hu
  ·rename_i q i hu hi
   split at hk<;>cases hk
   simp only[pY,dX,hu,Bool.false_eq_true,if_false]at hx hy
   obtain⟨dx,rfl,vx⟩:=hx
   obtain⟨dy,rfl,vy⟩:=hy
   cases vx<;>cases vy<;>simp[cC,fX]at he
   rename_i k1 n1 k2 n2
   by_cases sR:k1=k2
   ·subst sR
    simp at he
    subst he
    exact run_equalIn_int w (d+m) t _ _ _ _ hu
   ·simp[sR]at he
  ·rename_i i hu hi
   split at hk<;>cases hk
   simp only[pY,dX,hu,Bool.false_eq_true,if_false]at hx hy
   obtain⟨dx,rfl,vx⟩:=hx
   obtain⟨dy,rfl,vy⟩:=hy
   cases vx<;>cases vy<;>simp[cC,fX]at he
   subst he
   rw[show d+(m+1)=(d+m)+1 from rfl,run_equalIn_string w (d+m) t _ _ hu]
   rw[ByteArray.toList_eq,ByteArray.toList_eq]
  ·rename_i fs i hu hi
   split at hk
   ·rename_i bU
    split at hk
    ·rename_i kk sR
     split at hk
     ·cases hk
      simp only[pY,dX,hu,if_true]at hx hy
      obtain⟨vs,rfl,hv⟩:=hx
      obtain⟨us,rfl,huu⟩:=hy
      have hfs:P.fieldsOf t=fs:=by simp[Program.fieldsOf,hu]
      rw[show d+(m+1)=(d+m)+1 from rfl,run_equalIn_struct w (d+m) t _ _ (by rw[hfs];exact hu) bU.1,hfs]
      exact xH (d+m) hv huu w fs.toList 0 _ b (fun f _ k hf=>Hl m d f.type k hf) sR (by simpa using he)
     ·cases hk
    ·cases hk
   ·cases hk
  ·rename_i n e i hu hi
   split at hk
   ·split at hk
    ·rename_i kk sR
     split at hk
     ·cases hk
      simp only[pY,dX,hu,if_true]at hx hy
      obtain⟨vs,rfl,hv⟩:=hx
      obtain⟨us,rfl,huu⟩:=hy
      obtain⟨ie,MK,hse⟩:=xY sR
      rw[show d+(m+1)=(d+m)+1 from rfl,run_equalIn_array w (d+m) _ _ hu MK]
      have hce:P.cellsOf e=kk.length:=by simp[Program.cellsOf,MK,hse]
      rw[hce,List.range_eq_range']
      exact Af (d+m) sR (Hl m d e kk sR) hv huu w n 0 b (by simpa using he)
     ·cases hk
    ·cases hk
   ·cases hk
theorem Ts{d:Nat}{t:TypeId}{ks:List Nat}(hk:flatK P d t=some ks)(ha:dX P t=true):P.eqGuardType P.depth t=false:=by
 cases d with
 | zero=>simp[flatK]at hk
 | succ d =>
  unfold flatK at hk
  split at hk
  all_goals first|cases hk|skip
  ·rename_i hu _;simp[dX,hu]at ha
  ·rename_i hu _;simp[dX,hu]at ha
  ·rename_i hu _;simp[dX,hu]at ha
  ·split at hk
   ·rename_i bU;exact bU.2
   ·cases hk
  ·split at hk
   ·assumption
   ·cases hk
theorem yC{t : TypeId}{q : EqT}(hq : eqT P t = some q){dx dy : DV}{b : Bool}(he : fO q dx dy = some b){x y : Value}(hx : VR c dx x)(hy : VR c dy y)(w : World) : (Op.equal t x y).run P w = .ok b w := by
  unfold eqT at hq
  split at hq
  · rename_i hu; cases hq
    cases hx <;> cases hy <;> simp[fO, fX]at he
    subst he
    simpa[Op.equal, Op.maxDepth]using run_equalIn_bool' w 9999 t _ _ hu
  · rename_i k hu; cases hq
    cases hx <;> cases hy <;> simp[fO, fX]at he
    obtain⟨rfl, rfl⟩ := he
    simpa[Op.equal, Op.maxDepth]using run_equalIn_int w 9999 t _ _ _ _ hu
  · rename_i hu; cases hq
    cases hx <;> cases hy <;> simp[fO, fX]at he
    subst he
    rename_i s1 s2
    have := run_equalIn_string (P := P) w 9999 t ⟨s1.toArray⟩ ⟨s2.toArray⟩ hu
    rw[ByteArray.toList_eq, ByteArray.toList_eq]at this
    simpa[Op.equal, Op.maxDepth]using this
  all_goals first
    | (cases hq; done)
    | (rename_i hu
       simp only[Option.map_eq_some_iff]at hq
       obtain⟨ks, hks, rfl⟩ := hq
       unfold fO at he
       split at he <;> first | (cases he; done) | skip
       all_goals first
         | (exfalso; simp_all; done)
         | (rename_i GT
            simp only[EqT.agg.injEq]at GT
            subst GT
            obtain⟨vs, rfl, hl, h1, hv⟩ := hx.agg_inv
            obtain⟨us, rfl, Od, Zf, Td⟩ := hy.agg_inv
            have := Hl (P := P) 20 9980 t _ hks c _ _ (.agg vs.toArray) (.agg us.toArray) b w (by simp only[pY, dX, hu, if_true]; exact⟨vs, rfl, hl, hv⟩) (by simp only[pY, dX, hu, if_true]; exact⟨us, rfl, Od, Td⟩) he
            simpa[Op.equal, Op.maxDepth]using this))
theorem FD{t : TypeId}{neq : Bool}{ks : List Nat}{dx dy : DV}{b : Bool}(hg : P.eqGuardType P.depth t = false)(he : fO (.agg ks) dx dy = some b){vx vy : Value}(hx : VR c dx vx)(hy : VR c dy vy){x y : Operand}(w : World)(h1 : (Op.equal t vx vy).run P w = .ok b w) :
    (eqGuard (if neq then .neq else .eql) t x y vx vy).run P w = .ok () w ∧ (binOp (if neq then .neq else .eql) t vx vy).run P w = .ok (.bool (if neq then !b else b)) w := by
  unfold fO at he
  split at he <;> first | (cases he; done) | skip
  all_goals first
    | (exfalso; simp_all; done)
    | (obtain⟨vs, rfl, hl, Zf, hv⟩ := hx.agg_inv
       obtain⟨us, rfl, Od, h1'', Td⟩ := hy.agg_inv
       exact⟨run_eqGuard_agg w _ t x y _ _ hg, by cases neq <;> simp[binOp, h1]⟩)
theorem D7{neq:Bool}{t u:TypeId}{ks:List Nat}{x y:Operand}{x' y':Opd}(ho:o.op=.binOp (if neq then .neq else .eql) t x y u)(KV:dX P t=true)(hk:flatK P 20 t=some ks)(hx:opd x=some x')(hy:opd y=some y')
  (_hR:Rel h c) (hE:cI c env a) (hs:aC h env (.eqa neq ks x' y')=some (r,h')):bB P h c o a h' r:=by
 have vx:=bI hx hE
 have vy:=bI hy hE
 simp only[aC]at hs
 split at hs
 ·rename_i b hb
  simp only[Option.some.injEq,Prod.mk.injEq]at hs
  obtain⟨rfl,rfl⟩:=hs
  have hq:eqT P t=some (.agg ks):=by
   unfold dX at KV
   unfold eqT
   split at KV
   ·rename_i hu;simp[hu,hk]
   ·rename_i hu;simp[hu,hk]
   ·cases KV
  have h1:=yC (P:=P) hq hb vx vy c.w
  obtain⟨g1,g2⟩:=FD (P:=P) (neq:=neq) (x:=x) (y:=y) (Ts hk KV) hb vx vy c.w h1
  exact bB.value (.bool (if neq then !b else b)) (by simp[execOp,ho,g1,g2]) (.bool _)
 ·cases hs
end
end Go.Dm
/-
Part 8 of "Dm": operations that make memory, or write it.
-/
namespace Go.Dm
section
variable {P:Program} {h h':aA} {c:Ctx} {env:Env} {a:Act} {o:Oper} {r:DV}
theorem dQ{n:Nat}{d:DV}{v:Value}(hs:aU n d=true)(hv:VR c d v) :
  (aF n d).length=n∧v.cells.size=n∧∀j (h1:j<(aF n d).length) (h2:j<v.cells.size),VR c (aF n d)[j] v.cells[j]∧(v.cells[j]).oneCell'=true:=by
 have single:d.one=true→d≠.unk→n=1→(aF n d=[d])→v.cells=#[v]→(aF n d).length=n∧v.cells.size=n∧∀j (h1:j<(aF n d).length) (h2:j<v.cells.size),VR c (aF n d)[j] v.cells[j]∧(v.cells[j]).oneCell'=true:=by
  intro h1 h2 h3 h4 h5
  subst h3
  refine⟨by rw[h4];rfl,by rw[h5];rfl,fun j a1 a2=>?_⟩
  have e:j=0:=by rw[h4]at a1;simpa using a1
  subst e
  simp only[h4,h5,List.getElem_cons_zero]
  exact⟨hv,hv.one h2 h1⟩
 cases hv
 case unk=>simp[aU]at hs
 case tup=>simp[aU]at hs
 case tok=>simp[aU]at hs
 case agg ds vs hl h1 xF =>
  simp only[aU,beq_iff_eq]at hs
  refine⟨hs,by simp[Value.cells];omega,fun j a1 a2=>?_⟩
  simp only[aF]at a1
  simp only[Value.cells,List.size_toArray]at a2
  simp only[aF,Value.cells,List.getElem_toArray]
  exact⟨xF j a1 a2,h1 j a2⟩
 all_goals
  simp only[aU,beq_iff_eq]at hs
  exact single rfl (by simp) hs rfl rfl
theorem qN{xs:List DV}{sz m:Nat}{cur:Array Value}(hE:gU c xs sz cur 0)(eI:0<sz)(hs:cur.size=m*sz)(hm:xs.length=m):mF cur:=by
 intro q v hq
 have aY:=(Array.getElem?_eq_some_iff.1 hq).1
 have hi:q / sz<xs.length:=by rw[hm];exact Nat.div_lt_of_lt_mul (by rw[Nat.mul_comm,←hs];exact aY)
 obtain⟨w1,w2⟩:=hE (q / sz) hi
 obtain⟨u,b1,b2,_⟩:=w2 (q % sz) (by rw[w1];exact Nat.mod_lt _ eI)
 have uG:0+q / sz*sz+q % sz=q:=by
  have:=Nat.div_add_mod q sz
  rw[Nat.mul_comm]at this
  omega
 rw[uG,hq]at b1
 cases b1
 exact b2
theorem Dt(hR:Rel h c)(w':World){cur:Array Value}{ety sz m:Nat}{xs:List DV}{cap:Option Nat}(hw:w'.heap=c.w.heap.push (.cells cur ety (0,0)))(eI:0<sz)(hcur:cur.size=m*sz)
  (hx:xs.length≤m) (hU:∀k,cap=some k→k=m∧xs.length=m) (zT:mF cur) (nI:gU c xs sz cur 0) (hq:J2 c.w w':=by first|exact⟨rfl,rfl,rfl,Nat.le_refl _⟩|exact⟨rfl,rfl,rfl,Nat.le_succ _⟩) :
  ∃ ρ',Rel (h.push (.arr ety sz xs cap)) (c.next w' ρ' (h.push (.arr ety sz xs cap)))∧bR c (c.next w' ρ' (h.push (.arr ety sz xs cap)))∧ρ' h.n=some (c.w.heap.size,0)∧w'.shape? c.w.heap.size=some (ety,m*sz):=by
 have Df:w'.heap[c.w.heap.size]?=some (.cells cur ety (0,0)):=by rw[hw];simp
 refine⟨fun i=>if i=h.n then some (c.w.heap.size,0)else c.ρ i,?_⟩
 have key:=hR.push (.arr ety sz xs cap) w' c.w.heap.size 0 (Nat.le_refl _) (by rw[hw];simp) (fun k hk=>by rw[hw,Array.getElem?_push];simp;omega) (.push hw rfl hq.1 hq.2.1 hq.2.2.1 hq.2.2.2) (fun cM=>by
  refine⟨c.w.heap.size,0,cur,m,by simp[Ctx.next],Df,eI,by omega,hx,hU,zT,fun i hi=>⟨(nI i hi).1,fun j hj=>?_⟩⟩
  obtain⟨v,a1,a2,a3⟩:=(nI i hi).2 j hj
  exact⟨v,a1,a2,a3.mono cM⟩)
 exact⟨key.1,key.2,by simp,by simp[World.shape?,Df,hcur]⟩
theorem yD{d:DV}{v:Value}{sz:Nat}(hs:aU sz d=true)(hv:VR c d v):gU c [d] sz v.cells 0:=by
 obtain⟨h1,h2,h3⟩:=dQ hs hv
 intro i hi
 have e:i=0:=by simpa using hi
 subst e
 simp only[List.getElem_cons_zero]
 refine⟨h1,fun j hj=>⟨v.cells[j]'(by omega),by simp,(h3 j hj (by omega)).2,(h3 j hj (by omega)).1⟩⟩
theorem Rz(hR:Rel h c)(w':World){d:DV}{v:Value}{ety sz:Nat}(hw:w'.heap=c.w.heap.push (.cells v.cells ety (0,0)))(eI:0<sz)(hs:aU sz d=true)(hv:VR c d v)(hq:J2 c.w w':=by first|exact⟨rfl,rfl,rfl,Nat.le_refl _⟩|exact⟨rfl,rfl,rfl,Nat.le_succ _⟩) :
  lF h c (h.push (.arr ety sz [d] (some 1))) w' (.ptr h.n sz 0 0) (.pointer (some ⟨c.w.heap.size,0,none⟩)):=by
 obtain⟨_,h2,_⟩:=dQ hs hv
 obtain⟨ρ',k1,k2,k3,k4⟩:=Dt hR w' (m:=1) (cap:=some 1) hw eI (by omega) (xs:=[d]) (by simp) (fun k hk=>by cases hk;simp) (qN (m:=1) (yD hs hv) eI (by omega) rfl) (yD hs hv) hq
 refine⟨ρ',k1,k2,?_⟩
 have:=VR.ptr (c:=c.next w' ρ' (h.push (.arr ety sz [d] (some 1)))) (id:=h.n) (sz:=sz) (idx:=0) (off:=0) (b:=c.w.heap.size) (base:=0) k3
 simpa using this
theorem fA{e:TypeId}{sz bytes:Nat}{z:DV}(he:dY P e=some (sz,bytes,z)):∃ i z0,P.info? e=some i∧i.size=sz∧i.bytes=bytes∧i.zero=some z0∧Br z0=some z∧0<sz∧aU sz z=true:=by
 unfold dY at he
 split at he
 ·rename_i i hi
  split at he
  ·rename_i z' hz
   split at he
   ·rename_i hc
    cases he
    simp only[Option.bind_eq_some_iff]at hz
    obtain⟨z0,h1,h2⟩:=hz
    exact⟨i,z0,hi,rfl,rfl,h1,h2,hc.1,hc.2⟩
   ·cases he
  ·cases he
 ·cases he
theorem IQ{e:TypeId}{sz bytes:Nat}{z:DV}(ho:o.op=.alloc e)(he:dY P e=some (sz,bytes,z))(hR:Rel h c)(_hE:cI c env a)(hs:aC h env (.alloc e sz z)=some (r,h')):fK P h c o a h' r:=by
 simp only[aC,Option.some.injEq,Prod.mk.injEq]at hs
 obtain⟨rfl,rfl⟩:=hs
 obtain⟨i,z0,hi,e1,e2,hz,yM,eI,dD⟩:=fA he
 refine⟨.value (.pointer (some ⟨c.w.heap.size,0,none⟩)),_,{c.w with heap:=c.w.heap.push (.cells z0.cells e)},?_,.inl rfl,Rz hR _ rfl eI dD (eM yM c)⟩
 simp[execOp,ho,Instr.alloc,zeroValue,typeInfo,hi,hz,newVar,newRow]
theorem QW{e:TypeId}{sz bytes:Nat}{z:DV}{x:Operand}{x':Opd}(ho:o.op=.box e x)(he:dY P e=some (sz,bytes,z))(hx:opd x=some x')(hR:Rel h c)(hE:cI c env a)
  (hs:aC h env (.box e sz x')=some (r,h')):fK P h c o a h' r:=by
 have vx:=bI hx hE
 simp only[aC]at hs
 split at hs
 ·rename_i dD
  simp only[Option.some.injEq,Prod.mk.injEq]at hs
  obtain⟨rfl,rfl⟩:=hs
  obtain⟨i,z0,hi,e1,e2,hz,yM,eI,_⟩:=fA he
  refine⟨.value (.pointer (some ⟨c.w.heap.size,0,none⟩)),_,{c.w with heap:=c.w.heap.push (.cells (a.eval x).cells e)},?_,.inl rfl,Rz hR _ rfl eI dD vx⟩
  simp[execOp,ho,Instr.box,newVar,newRow]
 ·cases hs
def spl(cur:Array Value)(p:Nat)(vs:List Value):Array Value:=(cur.toList.take p++vs++cur.toList.drop (p+vs.length)).toArray
theorem pQ{cur:Array Value}{p:Nat}{vs:List Value}(cM:p+vs.length≤cur.size):(spl cur p vs).size=cur.size:=by
 simp[spl];omega
theorem qK{cur:Array Value}{p:Nat}{vs:List Value}(cM:p+vs.length≤cur.size)(q:Nat) :
  (spl cur p vs)[q]?=if q<p then cur[q]? else if q<p+vs.length then vs[q-p]? else cur[q]?:=by
 have hl:(cur.toList.take p).length=p:=by simp;omega
 simp only[spl,List.getElem?_toArray,List.append_assoc]
 rw[List.getElem?_append,hl]
 split
 ·rename_i hq;rw[List.getElem?_take,if_pos hq,Array.getElem?_toList]
 ·rw[List.getElem?_append]
  split
  ·rw[if_pos (by omega)]
  ·rw[if_neg (by omega),List.getElem?_drop,Array.getElem?_toList]
   congr 1
   omega
theorem Fw{cur:Array Value}{p:Nat}{vs:List Value}(h1:mF cur)(hp:p+vs.length≤cur.size)(EL:∀v∈vs,v.oneCell'=true):mF (spl cur p vs):=by
 intro q v hq
 rw[qK hp]at hq
 split at hq
 ·exact h1 q v hq
 ·split at hq
  ·exact EL v (List.mem_of_getElem? hq)
  ·exact h1 q v hq
theorem Rel.write{ety sz:Nat}{xs:List DV}{cap:Option Nat}{id b base m:Nat}{cur:Array Value}(hR:Rel h c)(hg:h.get id=some (.arr ety sz xs cap))(hρ:c.ρ id=some (b,base))(g1:c.w.heap[b]?=some (.cells cur ety (0,0)))(eI:0<sz)
  (g3:cur.size=base+m*sz) (xs':List DV) (hl:xs'.length=xs.length) (hx:xs.length≤m) (hU:∀k,cap=some k→k=m∧xs.length=m) (p:Nat) (vs:List Value) (hp:p+vs.length≤cur.size) (EL:∀v∈vs,v.oneCell'=true)
  (nI:gU c xs' sz (spl cur p vs) base):Rel (h.set id (.arr ety sz xs' cap)) (c.next (c.w.setRow b (spl cur p vs)) c.ρ (h.set id (.arr ety sz xs' cap)))∧bR c (c.next (c.w.setRow b (spl cur p vs)) c.ρ (h.set id (.arr ety sz xs' cap))):=by
 refine hR.set (.arr ety sz xs' cap) hg rfl rfl hρ _ (by simp) (fun k hk=>setRow_other _ _ _ _ hk) (fun e n hs=>?_) (.at g1 (setRow_heap c.w b cur _ ety (0,0) g1) (fun k hk=>setRow_other _ _ _ _ hk) rfl rfl rfl rfl) (fun cM=>?_)
 ·rw[dU g1]at hs
  cases hs
  rw[dU (setRow_heap c.w b cur _ ety (0,0) g1),pQ hp]
 ·refine⟨b,base,spl cur p vs,m,hρ,setRow_heap c.w b cur _ ety (0,0) g1,eI,by rw[pQ hp];exact g3,by omega,fun k hk=>by rw[hl];exact hU k hk,Fw (hR.oneRow hg hρ g1) hp EL,fun i hi=>⟨(nI i hi).1,fun j hj=>?_⟩⟩
  obtain⟨v,a1,a2,a3⟩:=(nI i hi).2 j hj
  exact⟨v,a1,a2,a3.mono cM⟩
theorem jM{b p:Nat}{ety:TypeId}{cur:Array Value}{w:World}(g1:w.heap[b]?=some (.cells cur ety (0,0)))(vs:List Value)(hp:p+vs.length≤cur.size)(h1:∀v∈vs,v.oneCell'=true) :
  (storeCells ⟨b,p,none⟩ vs).run P w=.ok () (w.setRow b (spl cur p vs)):=by
 have:=run_storeCells_at P b p ety vs 0 cur w g1 (by simpa using hp) h1
 simpa[spl]using this
theorem pK{i k sz j:Nat}(hik:i<k)(hj:j<sz):i*sz+j<k*sz:=by
 have:(i+1)*sz≤k*sz:=Nat.mul_le_mul_right _ hik
 rw[Nat.add_mul]at this
 omega
def eB(c:Ctx)(cur:Array Value)(p:Nat)(L:List DV):Prop:=∀(j:Nat) (d:DV),L[j]?=some d→∃ v,cur[p+j]?=some v∧v.oneCell'=true∧VR c d v
theorem mY{xs:List DV}{sz base:Nat}{cur:Array Value}:gU c xs sz cur base↔∀(i:Nat) (d:DV),xs[i]?=some d→(aF sz d).length=sz∧eB c cur (base+i*sz) (aF sz d):=by
 constructor
 ·intro hh i d hd
  obtain⟨hi,rfl⟩:=List.getElem?_eq_some_iff.1 hd
  refine⟨(hh i hi).1,fun j e he=>?_⟩
  obtain⟨hj,rfl⟩:=List.getElem?_eq_some_iff.1 he
  exact(hh i hi).2 j hj
 ·intro hh i hi
  obtain⟨h1,h2⟩:=hh i xs[i] (List.getElem?_eq_getElem hi)
  exact⟨h1,fun j hj=>h2 j _ (List.getElem?_eq_getElem hj)⟩
theorem gU.mono'{c':Ctx}{xs:List DV}{sz base:Nat}{cur:Array Value}(hE:gU c xs sz cur base)(cM:bR c c'):gU c' xs sz cur base:=fun i hi =>
 ⟨(hE i hi).1,fun j hj=>let ⟨v,a1,a2,a3⟩:=(hE i hi).2 j hj;⟨v,a1,a2,a3.mono cM⟩⟩
theorem eB.append{cur:Array Value}{p:Nat}{L1 L2:List DV}(h1:eB c cur p L1)(h2:eB c cur (p+L1.length) L2):eB c cur p (L1++L2):=by
 intro j d hd
 rw[List.getElem?_append]at hd
 split at hd
 ·exact h1 j d hd
 ·rename_i hj
  obtain⟨v,a1,a2⟩:=h2 _ d hd
  exact⟨v,by rw[←a1];congr 1;omega,a2⟩
theorem eB.take{cur:Array Value}{p:Nat}{L:List DV}(h1:eB c cur p L)(n:Nat):eB c cur p (L.take n):=by
 intro j d hd
 rw[List.getElem?_take]at hd
 split at hd
 ·exact h1 j d hd
 ·cases hd
theorem eB.drop{cur:Array Value}{p:Nat}{L:List DV}(h1:eB c cur p L)(n:Nat):eB c cur (p+n) (L.drop n):=by
 intro j d hd
 rw[List.getElem?_drop]at hd
 obtain⟨v,a1,a2⟩:=h1 _ d hd
 exact⟨v,by rw[←a1];congr 1;omega,a2⟩
theorem eB.other{cur:Array Value}{p q:Nat}{L:List DV}{vs:List Value}(h1:eB c cur q L)(cM:p+vs.length≤cur.size)(hd:q+L.length≤p∨p+vs.length≤q):eB c (spl cur p vs) q L:=by
 intro j d nJ
 have hj:=(List.getElem?_eq_some_iff.1 nJ).1
 obtain⟨v,a1,a2⟩:=h1 j d nJ
 refine⟨v,?_,a2⟩
 rw[qK cM]
 rcases hd with hd|hd
 ·rw[if_pos (by omega)];exact a1
 ·rw[if_neg (by omega),if_neg (by omega)];exact a1
theorem eB.same{cur:Array Value}{p:Nat}{L:List DV}{vs:List Value}(cM:p+vs.length≤cur.size)(hl:L.length≤vs.length)(hv:∀(j:Nat) (d:DV) (v:Value),L[j]?=some d→vs[j]?=some v→v.oneCell'=true∧VR c d v):eB c (spl cur p vs) p L:=by
 intro j d hd
 have hj:=(List.getElem?_eq_some_iff.1 hd).1
 have hjv:j<vs.length:=by omega
 refine⟨vs[j],?_,(hv j d _ hd (List.getElem?_eq_getElem hjv)).1,(hv j d _ hd (List.getElem?_eq_getElem hjv)).2⟩
 rw[qK cM,if_neg (by omega),if_pos (by omega),Nat.add_sub_cancel_left]
 exact List.getElem?_eq_getElem hjv
theorem nD{n:Nat}{d:DV}{v:Value}(hs:aU n d=true)(hv:VR c d v):(aF n d).length=n∧v.cells.toList.length=n∧(∀u∈v.cells.toList,u.oneCell'=true) ∧
  ∀(j:Nat) (e:DV) (u:Value),(aF n d)[j]?=some e→v.cells.toList[j]?=some u→u.oneCell'=true∧VR c e u:=by
 obtain⟨s1,s2,s3⟩:=dQ hs hv
 refine⟨s1,by simp[s2],fun u hu=>?_,fun j e u he hu=>?_⟩
 ·obtain⟨j,hj,hjv⟩:=List.getElem_of_mem hu
  have Dg:j<v.cells.size:=by simpa using hj
  have:=(s3 j (by omega) Dg).2
  rw[←hjv];simpa using this
 ·obtain⟨h1,rfl⟩:=List.getElem?_eq_some_iff.1 he
  obtain⟨h2,rfl⟩:=List.getElem?_eq_some_iff.1 hu
  have Dg:j<v.cells.size:=by simpa using h2
  have:=s3 j h1 Dg
  exact⟨by simpa using this.2,by simpa using this.1⟩
theorem IK{t:TypeId}{i:TypeInfo}{x y:Operand}{x' y':Opd}(ho:o.op=.store t x y)(hi:P.info? t=some i)(hx:opd x=some x')(hy:opd y=some y')(hR:Rel h c)(hE:cI c env a)
  (hs:aC h env (.store i.size x' y')=some (r,h')):fK P h c o a h' r:=by
 have vx:=bI hx hE
 have vy:=bI hy hE
 simp only[aC]at hs
 split at hs
 ·rename_i h'' dD
  simp only[Option.some.injEq,Prod.mk.injEq]at hs
  obtain⟨rfl,rfl⟩:=hs
  unfold kX at dD
  split at dD
  ·rename_i id sz idx off hv
   split at dD
   ·rename_i ety dT xs cap hg
    split at dD
    ·rename_i bU
     obtain⟨hss,aS,hstor,hoff⟩:=bU
     subst hss
     split at dD
     ·rename_i e he
      split at dD
      ·rename_i nI
       cases dD
       rw[hv]at vx
       obtain⟨b,base,dN,hρ⟩:=vx.ptr_inv
       obtain⟨cur,m,g1,g2,g3,g4,g5,g6⟩:=hR.arr hg hρ
       obtain⟨s1,s2,s4,s3⟩:=nD hstor vy
       obtain⟨hidx,Oh⟩:=List.getElem?_eq_some_iff.1 he
       have As:idx*sz+sz≤m*sz:=by
        have:(idx+1)*sz≤m*sz:=Nat.mul_le_mul_right _ (by omega)
        rw[Nat.add_mul]at this;omega
       have hp:base+idx*sz+off+(a.eval y).cells.toList.length≤cur.size:=by rw[s2];omega
       have iT:=jM (P:=P) g1 (a.eval y).cells.toList hp s4
       have hturn:aF sz (turn sz off i.size e (y'.eval env))=(aF sz e).take off++aF i.size (y'.eval env)++(aF sz e).drop (off+i.size):=by
        unfold turn
        split
        ·rename_i hc
         obtain⟨e1,e2⟩:=hc
         subst e1
         rw[e2]
         simp[nI]
        ·rfl
       obtain⟨k1,k2⟩:=hR.write hg hρ g1 g2 g3 (xs.set idx (turn sz off i.size e (y'.eval env))) (by simp) g4 g5 (base+idx*sz+off) (a.eval y).cells.toList hp s4 (mY.2 fun k d hk=>by
        rw[List.getElem?_set]at hk
        have g6':=mY.1 g6
        by_cases hki:idx=k
        ·subst hki
         rw[if_pos rfl,if_pos hidx]at hk
         cases hk
         obtain⟨w1,w2⟩:=g6' idx e he
         rw[hturn]
         refine⟨by simp only[List.length_append,List.length_take,List.length_drop,nI,s1];omega,?_⟩
         have l1:((aF sz e).take off).length=off:=by rw[List.length_take,nI];omega
         refine eB.append (eB.append ?_ ?_) ?_
         ·exact(w2.take off).other hp (.inl (by rw[l1];exact Nat.le_refl _))
         ·rw[l1]
          exact eB.same hp (by omega) s3
         ·rw[List.length_append,l1,s1]
          have:=(w2.drop (off+i.size)).other hp (.inr (by rw[s2];omega))
          simpa[Nat.add_assoc]using this
        ·rw[if_neg hki]at hk
         obtain⟨w1,w2⟩:=g6' k d hk
         refine⟨w1,w2.other hp ?_⟩
         rw[w1,s2]
         rcases Nat.lt_or_gt_of_ne hki with aY|hgt
         ·have:idx*sz+(sz-1)<k*sz:=pK aY (by omega)
          right;omega
         ·have:k*sz+(sz-1)<idx*sz:=pK hgt (by omega)
          left;omega)
       refine⟨.skip,undef,_,?_,.inr ⟨rfl,rfl⟩,c.ρ,k1,k2,?_⟩
       ·have s2':(a.eval y).cells.size=i.size:=by simpa using s2
        simp[execOp,ho,dN,Instr.storeAt,Instr.sureAddr,storeVar,sizeOf,typeInfo,hi,s2',iT]
       ·exact .tup (ds:=[]) (vs:=[]) rfl (fun i h1 _=>absurd h1 (by simp))
      ·cases dD
     ·cases dD
    ·cases dD
   ·cases dD
  ·cases dD
 ·cases hs
end
end Go.Dm
/-
Part 9 of "Dm": append, copy, make, slices and structs that are built.
-/
namespace Go.Dm
section
variable {P:Program} {h h':aA} {c:Ctx} {env:Env} {a:Act} {o:Oper} {r:DV}
def jF(c:Ctx)(sz:Nat)(ys:List DV)(vs:List Value):Prop :=
 vs.length=ys.length*sz∧(∀u∈vs,u.oneCell'=true) ∧
 ∀(i:Nat) (d:DV),ys[i]?=some d→(aF sz d).length=sz∧∀(j:Nat) (e:DV),(aF sz d)[j]?=some e→∃ u,vs[i*sz+j]?=some u∧VR c e u
theorem Bb{sz:Nat}:jF c sz [] []:=⟨by simp,by simp,by simp⟩
theorem jF.append{sz:Nat}{ys zs:List DV}{vs us:List Value}(h1:jF c sz ys vs)(h2:jF c sz zs us):jF c sz (ys++zs) (vs++us):=by
 refine⟨by rw[List.length_append,List.length_append,Nat.add_mul,h1.1,h2.1],fun u hu=>(List.mem_append.1 hu).elim (h1.2.1 u) (h2.2.1 u),fun i d hd=>?_⟩
 rw[List.getElem?_append]at hd
 split at hd
 ·rename_i hi
  obtain⟨a1,a2⟩:=h1.2.2 i d hd
  refine⟨a1,fun j e he=>?_⟩
  obtain⟨u,b1,b2⟩:=a2 j e he
  exact⟨u,by rw[List.getElem?_append_left (List.getElem?_eq_some_iff.1 b1).1];exact b1,b2⟩
 ·rename_i hi
  obtain⟨a1,a2⟩:=h2.2.2 _ d hd
  refine⟨a1,fun j e he=>?_⟩
  obtain⟨u,b1,b2⟩:=a2 j e he
  refine⟨u,?_,b2⟩
  have hmul:(i-ys.length)*sz+ys.length*sz=i*sz:=by rw[←Nat.add_mul];congr 1;omega
  rw[List.getElem?_append_right (by rw[h1.1];omega),h1.1]
  rw[←b1];congr 1;omega
theorem jF.mono{c':Ctx}{sz:Nat}{ys:List DV}{vs:List Value}(h1:jF c sz ys vs)(cM:bR c c'):jF c' sz ys vs :=
 ⟨h1.1,h1.2.1,fun i d hd=>⟨(h1.2.2 i d hd).1,fun j e he=>let ⟨u,b1,b2⟩:=(h1.2.2 i d hd).2 j e he;⟨u,b1,b2.mono cM⟩⟩⟩
theorem jF.toElems{sz:Nat}{ys:List DV}{vs:List Value}(h1:jF c sz ys vs){cur:Array Value}{base:Nat}(hc:∀(j:Nat) (u:Value),vs[j]?=some u→cur[base+j]?=some u):gU c ys sz cur base:=by
 rw[mY]
 intro i d hd
 obtain⟨a1,a2⟩:=h1.2.2 i d hd
 refine⟨a1,fun j e he=>?_⟩
 obtain⟨u,b1,b2⟩:=a2 j e he
 exact⟨u,by rw[Nat.add_assoc];exact hc _ _ b1,h1.2.1 u (List.mem_of_getElem? b1),b2⟩
theorem uT{xs:List DV}{sz base m:Nat}{cur:Array Value}(hE:gU c xs sz cur base)(kO:cur.size=base+m*sz)(off len:Nat)(cM:off+len≤xs.length)(hm:xs.length≤m) :
  jF c sz ((xs.drop off).take len) ((cur.toList.drop (base+off*sz)).take (len*sz)):=by
 have hb:base+off*sz+len*sz≤cur.size:=by
  have:(off+len)*sz≤m*sz:=Nat.mul_le_mul_right _ (by omega)
  rw[Nat.add_mul]at this;omega
 have hE':=mY.1 hE
 have jQ:∀q u,((cur.toList.drop (base+off*sz)).take (len*sz))[q]?=some u↔q<len*sz∧cur[base+off*sz+q]?=some u:=by
  intro q u
  rw[List.getElem?_take]
  split
  ·rename_i hq;rw[List.getElem?_drop,Array.getElem?_toList];exact⟨fun h=>⟨hq,h⟩,fun h=>h.2⟩
  ·rename_i hq;exact⟨(fun h=>by cases h),(fun h=>absurd h.1 hq)⟩
 refine⟨by rw[List.length_take,List.length_take,List.length_drop,List.length_drop,Array.length_toList,Nat.min_eq_left (by omega),Nat.min_eq_left (by omega)],fun u hu=>?_,fun i d hd=>?_⟩
 ·obtain⟨q,hq⟩:=List.getElem?_of_mem hu
  obtain⟨Yx,Kz⟩:=(jQ q u).1 hq
  have eI:0<sz:=by
   rcases Nat.eq_zero_or_pos sz with e|e
   ·subst e;simp at Yx
   ·exact e
  have hi:q / sz<len:=Nat.div_lt_of_lt_mul (by rw[Nat.mul_comm];exact Yx)
  obtain⟨w1,w2⟩:=hE' (off+q / sz) xs[off+q / sz] (List.getElem?_eq_getElem (by omega))
  have aY:q % sz<(aF sz xs[off+q / sz]).length:=by rw[w1];exact Nat.mod_lt _ eI
  obtain⟨v,b1,b2,_⟩:=w2 (q % sz) _ (List.getElem?_eq_getElem aY)
  have uG:base+(off+q / sz)*sz+q % sz=base+off*sz+q:=by
   rw[Nat.add_mul]
   have:=Nat.div_add_mod q sz
   rw[Nat.mul_comm]at this
   omega
  rw[uG,Kz]at b1
  cases b1
  exact b2
 ·rw[List.getElem?_take]at hd
  split at hd
  ·rename_i hi
   rw[List.getElem?_drop]at hd
   obtain⟨w1,w2⟩:=hE' (off+i) d hd
   refine⟨w1,fun j e he=>?_⟩
   obtain⟨v,b1,b2,b3⟩:=w2 j e he
   have hj:=(List.getElem?_eq_some_iff.1 he).1
   rw[w1]at hj
   refine⟨v,(jQ _ _).2 ⟨pK hi hj,?_⟩,b3⟩
   rw[←b1];congr 1;rw[Nat.add_mul];omega
  ·cases hd
theorem lM(hR:Rel h c){sz:Nat}{d:DV}{v:Value}{ys:List DV}(he:elems h sz d=some ys)(hv:VR c d v) :
  ∃ ad cap news,v=.slice ad ys.length cap∧ys.length≤cap∧jF c sz ys news∧(ad=none→ys=[])∧∀adr,ad=some adr→∀(j:Nat) (u:Value),news[j]?=some u→c.w.cell? (adr.add j)=some u:=by
 cases d<;>simp only[elems]at he<;>try (cases he;done)
 case nsl =>
  cases he
  obtain⟨ad,e⟩:=hv.nsl_inv
  exact⟨ad,0,[],e,by simp,Bb,fun _=>rfl,fun _ _ j u hj=>by simp at hj⟩
 case sl id dT off len =>
  split at he
  ·rename_i ety kE xs cap hg
   split at he
   ·rename_i bU
    obtain⟨e1,e2,cM⟩:=bU
    subst e1;subst e2
    cases he
    obtain⟨b,base,fU,gX,nn,nT,dN,hρ,eC,zU,zX,Di⟩:=hv.sl_inv
    obtain⟨cur,mm,g1,g2,g3,g4,g5,g6⟩:=hR.arr hg hρ
    have cB:((xs.drop off).take len).length=len:=by simp;omega
    refine⟨some ⟨b,gX,none⟩,fU,_,by rw[cB];exact dN,by rw[cB];exact zX,uT g6 g3 off len cM g4,(fun h=>by cases h),fun adr hadr j u hj=>?_⟩
    cases hadr
    rw[List.getElem?_take]at hj
    split at hj
    ·rename_i Yy
     rw[List.getElem?_drop,Array.getElem?_toList]at hj
     have G0:0<len:=by
      rcases Nat.eq_zero_or_pos len with e|e
      ·subst e;simp at Yy
      ·exact e
     have nS:gX=base+off*sz:=Di.elim (fun e=>e) (fun e=>by omega)
     rw[Addr.add_lit,iN g1,nS]
     exact hj
    ·cases hj
   ·cases he
  ·cases he
 case isl lent dT xs =>
  split at he
  ·rename_i eI
   cases he
   by_cases Gq:ys=[]
   ·subst Gq
    have:∃ ad cap,v=.slice ad 0 cap:=by
     rcases hv.isl_inv with⟨_,ad,cap,dN⟩|⟨b,o',cap,vals,dN,_⟩
     ·exact⟨_,_,dN⟩
     ·exact⟨_,_,dN⟩
    obtain⟨ad,cap,dN⟩:=this
    exact⟨ad,cap,[],dN,by simp,Bb,fun _=>rfl,fun _ _ j u hj=>by simp at hj⟩
   have eI:=eI.resolve_right Gq
   subst eI
   rcases hv.isl_inv with⟨rfl,ad,cap,dN⟩|⟨b,o',cap,vals,dN,hU,hb,hO,hX,hszs,hc,xF⟩
   ·exact⟨ad,cap,[],dN,by simp,Bb,fun _=>rfl,fun _ _ j u hj=>by simp at hj⟩
   ·refine⟨some ⟨b,o',none⟩,cap,(List.range (ys.length*sz)).map fun q=>vals (q / sz) (q % sz),dN,hU,⟨by simp,fun u hu=>?_,fun i d hd=>?_⟩,(fun h=>by cases h),fun adr hadr j u hj=>?_⟩
    ·simp only[List.mem_map,List.mem_range]at hu
     obtain⟨q,hq,rfl⟩:=hu
     have hs:0<sz:=Nat.pos_of_ne_zero (fun e=>by subst e;simp at hq)
     exact(hc (q / sz) (q % sz) (Nat.div_lt_of_lt_mul (by rw[Nat.mul_comm];exact hq)) (Nat.mod_lt _ hs)).2
    ·obtain⟨hi,hdd⟩:=List.getElem?_eq_some_iff.1 hd
     subst hdd
     refine⟨hszs i hi,fun j e he=>?_⟩
     obtain⟨hj,Oh⟩:=List.getElem?_eq_some_iff.1 he
     subst Oh
     have sS:=hj
     rw[hszs i hi]at sS
     refine⟨vals i j,?_,(xF i hi j hj).of_still⟩
     rw[List.getElem?_map,List.getElem?_range (pK hi sS)]
     simp only[Option.map_some]
     congr 2
     ·rw[Nat.mul_comm,Nat.mul_add_div (by omega),Nat.div_eq_of_lt sS,Nat.add_zero]
     ·rw[Nat.mul_comm,Nat.mul_add_mod,Nat.mod_eq_of_lt sS]
    ·cases hadr
     rw[List.getElem?_map]at hj
     simp only[Option.map_eq_some_iff]at hj
     obtain⟨q,hq,rfl⟩:=hj
     obtain⟨Yx,Kz⟩:=List.getElem?_eq_some_iff.1 hq
     simp only[List.length_range]at Yx
     simp only[List.getElem_range]at Kz
     subst Kz
     have hs:0<sz:=Nat.pos_of_ne_zero (fun e=>by subst e;simp at Yx)
     have:=(hc (j / sz) (j % sz) (Nat.div_lt_of_lt_mul (by rw[Nat.mul_comm];exact Yx)) (Nat.mod_lt _ hs)).1
     rw[Addr.add_lit,←this]
     congr 2
     have:=Nat.div_add_mod j sz
     rw[Nat.mul_comm]at this
     omega
  ·cases he
theorem Ba{sz n cap:Nat}{ad:Option Addr}{news:List Value}(hl:news.length=n*sz)(hn:ad=none→n=0){w w':World}(hw:w'.heap=w.heap)
  (hc:∀adr,ad=some adr→∀(j:Nat) (u:Value),news[j]?=some u→w.cell? (adr.add j)=some u):(Builtin.firstCells sz n (.slice ad n cap)).run P w'=.ok news.toArray w':=by
 cases ad with
 | none =>
  have:=hn rfl
  subst this
  have:news=[]:=List.eq_nil_of_length_eq_zero (by simpa using hl)
  subst this
  rfl
 | some adr =>
  exact run_firstCells_some w' sz n adr n cap news hl (fun j v hj=>by
   have:=hc adr rfl j v hj
   simpa[World.cell?,hw]using this)
theorem Vd{t u ty e e':TypeId}{i:TypeInfo}(ht:P.underlying t=some (.slice e))(hu:P.underlying u=some (.slice e'))(hi:P.info? e=some i){w:World}{b co sLen sCap n cap:Nat}{ad:Option Addr}{cur:Array Value}{ety:TypeId}{news:List Value}
  (g1:w.heap[b]?=some (.cells cur ety (0,0))) (hf:(Builtin.firstCells i.size n (.slice ad n cap)).run P w=.ok news.toArray w) (h1:∀x∈news,x.oneCell'=true) (mI:sLen+n≤sCap) (lW:co+sLen*i.size+news.length≤cur.size) :
  (Builtin.append_ #[t,u] ty #[.slice (some ⟨b,co,none⟩) sLen sCap,.slice ad n cap]).run P w=.ok (.slice (some ⟨b,co,none⟩) (sLen+n) sCap) (w.setRow b (spl cur (co+sLen*i.size) news)):=by
 have dD:=jM (P:=P) g1 news lW h1
 simp[Builtin.append_,run_underlying ht,run_underlying hu,sizeOf,typeInfo,hi,Builtin.lenOf,mI,hf,Addr.add_lit,dD]
theorem Vc{t u ty e e':TypeId}{i:TypeInfo}(ht:P.underlying t=some (.slice e))(hu:P.underlying u=some (.slice e'))(hi:P.info? e=some i){w:World}{base ad:Option Addr}{sLen sCap cap:Nat}(mI:sLen≤sCap) :
  (Builtin.append_ #[t,u] ty #[.slice base sLen sCap,.slice ad 0 cap]).run P w=.ok (.slice base sLen sCap) w:=by
 have hf:(Builtin.firstCells i.size 0 (.slice ad 0 cap)).run P w=.ok #[] w:=by
  cases ad with
  | none=>rfl
  | some adr=>simpa using run_firstCells_some (P:=P) w i.size 0 adr 0 cap [] (by simp) (by simp)
 cases base<;>simp[Builtin.append_,run_underlying ht,run_underlying hu,sizeOf,typeInfo,hi,Builtin.lenOf,mI,hf,storeCells]
theorem Pi{t u ty e e':TypeId}{i:TypeInfo}{z:Value}(ht:P.underlying t=some (.slice e))(hu:P.underlying u=some (.slice e'))(hi:P.info? e=some i)(hz:i.zero=some z){w:World}{base ad:Option Addr}{sLen sCap n cap:Nat}{olds news:List Value}
  (GR:(Builtin.firstCells i.size sLen (.slice base sLen sCap)).run P w.drew=.ok olds.toArray w.drew) (hf:(Builtin.firstCells i.size n (.slice ad n cap)).run P w.drew=.ok news.toArray w.drew)
  (hg:sCap<sLen+n) (h63:sLen+n≤9223372036854775807) (lW:(sLen+n)*i.bytes≤140737488355328) :
  (Builtin.append_ #[t,u] ty #[.slice base sLen sCap,.slice ad n cap]).run P w =
   .ok (.slice (some ⟨w.heap.size,0,none⟩) (sLen+n) (grownCap w (sLen+n) sCap e)) (w.drew.alloc (.cells (olds.toArray++news.toArray++Builtin.zeroCells z.cells (grownCap w (sLen+n) sCap e-(sLen+n))) e)):=by
 have hn:¬(sLen+n≤sCap):=by omega
 have h63':¬(9223372036854775807<((sLen:Int)+(n:Int))):=by omega
 have Ze:¬(281474976710656<Builtin.nextslicecap (sLen+n) sCap*i.bytes):=by have:=growslice_fits hg lW;omega
 simp[Builtin.append_,run_underlying ht,run_underlying hu,sizeOf,typeInfo,zeroValue,hi,hz,Builtin.lenOf,hn,h63',Ze,Question.forced,hf,GR,newRow,grownCap]
 congr 2
 apply Array.ext'
 simp[List.append_assoc]
theorem cU{z:Array Value}{n:Nat}:(Builtin.zeroCells z n).size=n*z.size:=by simp[Builtin.zeroCells]
theorem rC{z:Array Value}{n q:Nat}(hz:0<z.size)(hq:q<n*z.size):(Builtin.zeroCells z n)[q]?=some (z[q % z.size]'(Nat.mod_lt _ hz)):=by
 simp only[Builtin.zeroCells]
 rw[Array.getElem?_map,Array.getElem?_range]
 simp only[hq,if_true,Option.map_some]
 congr 1
 exact getElem!_pos z _ (Nat.mod_lt _ hz)
theorem tI{z:Array Value}{n:Nat}(hz:∀j (hj:j<z.size),(z[j]).oneCell'=true):mF (Builtin.zeroCells z n):=by
 intro q v hq
 have aY:=(Array.getElem?_eq_some_iff.1 hq).1
 rw[cU]at aY
 have uG:0<z.size:=Nat.pos_of_ne_zero fun e=>by rw[e]at aY;omega
 rw[rC uG aY]at hq
 cases hq
 exact hz _ _
theorem xS(hR:Rel h c){ety sz need ncap:Nat}{ys:List DV}{vs:List Value}{zs:Array Value}{w':World}(hw:w'.heap=c.w.heap.push (.cells (vs.toArray++zs) ety (0,0)))(eI:0<sz)(iT:jF c sz ys vs)(hneed:ys.length=need)(hU:need≤ncap)(hzs:zs.size=(ncap-need)*sz)(Ky:mF zs)(hq:J2 c.w w':=by first|exact⟨rfl,rfl,rfl,Nat.le_refl _⟩|exact⟨rfl,rfl,rfl,Nat.le_succ _⟩) :
  lF h c (h.push (.arr ety sz ys none)) w' (.sl h.n sz 0 need) (.slice (some ⟨c.w.heap.size,0,none⟩) need ncap):=by
 have kO:(vs.toArray++zs).size=ncap*sz:=by
  simp only[Array.size_append,List.size_toArray,iT.1,hneed,hzs,←Nat.add_mul]
  congr 1;omega
 obtain⟨ρ',k1,k2,k3,k4⟩:=Dt hR w' (m:=ncap) (cap:=none) (xs:=ys) hw eI kO (by omega) (fun k hk=>by cases hk) (fun q v hv=>by
  rw[Array.getElem?_append]at hv
  split at hv
  ·exact iT.2.1 v (List.mem_of_getElem? (by simpa using hv))
  ·exact Ky _ v hv) (iT.toElems fun j u hj=>by
  rw[Nat.zero_add,Array.getElem?_append_left (by have:=(List.getElem?_eq_some_iff.1 hj).1;simpa using this)]
  simpa using hj) hq
 exact⟨ρ',k1,k2,.sl k3 k4 (by simp) hU (.inl (by simp))⟩
end
end Go.Dm
/-
Part 10 of "Dm": append whole; copy; make.
-/
namespace Go.Dm
section
variable {P:Program} {h h':aA} {c:Ctx} {env:Env} {a:Act} {o:Oper} {r:DV}
theorem Rel.moved(hR:Rel h c){id:Nat}{ob:DO}(o':DO)(hg:h.get id=some ob)(ha:gF ob=true)(MN:gF o'=true){b base base':Nat}(hr:c.ρ id=some (b,base))(w':World)
  (kO:c.w.heap.size=w'.heap.size) (gG:∀k,k≠b→w'.heap[k]?=c.w.heap[k]?) (eC:∀e n,c.w.shape? b=some (e,n)→w'.shape? b=some (e,n)) (hq:mE c.w w')
  (Oa:bR c (c.next w' (fun i=>if i=h.n then some (b,base')else c.ρ i) ((h.set id .dead).push o'))→Kb (c.next w' (fun i=>if i=h.n then some (b,base')else c.ρ i) ((h.set id .dead).push o')) h.n o') :
  Rel ((h.set id .dead).push o') (c.next w' (fun i=>if i=h.n then some (b,base')else c.ρ i) ((h.set id .dead).push o'))∧bR c (c.next w' (fun i=>if i=h.n then some (b,base')else c.ρ i) ((h.set id .dead).push o')):=by
 have eK:=dH hg
 have hOw:iS h c.ρ b:=⟨id,ob,base,hg,ha,hr⟩
 have hO:c.O b:=(hR.own b).2 (.inl hOw)
 have hn:(h.set id .dead).n=h.n:=rfl
 have jQ:∀i oi,((h.set id .dead).push o').get i=some oi→gF oi=true→(i=h.n∧oi=o')∨(i≠h.n∧i≠id∧h.get i=some oi):=by
  intro i oi sU pT
  rw[cD,hn]at sU
  split at sU
  ·rename_i e;cases sU;exact .inl ⟨e,rfl⟩
  ·rename_i e
   by_cases ei:i=id
   ·subst ei
    rw[eD hR.len hg]at sU
    cases sU;simp[gF]at pT
   ·rw[bD eK ei]at sU
    exact .inr ⟨e,ei,sU⟩
 have fZ:∀k,iS ((h.set id .dead).push o') (fun i=>if i=h.n then some (b,base')else c.ρ i) k→iS h c.ρ k:=by
  rintro k ⟨i,oi,x,sU,pT,nX⟩
  rcases jQ i oi sU pT with⟨e,_⟩|⟨e,_,hgi'⟩
  ·simp only[if_pos e]at nX;cases nX;exact hOw
  ·simp only[if_neg e]at nX
   exact⟨i,oi,x,hgi',pT,nX⟩
 have cM:bR c (c.next w' (fun i=>if i=h.n then some (b,base')else c.ρ i) ((h.set id .dead).push o')):=by
  refine⟨fun i p hp=>?_,Nat.le_of_eq kO,fun k hk hnO=>gG k (fun e=>hnO (e ▸ hO)),fun k hk=>.inl ((hR.own k).2 (hk.imp (fZ k) (fun x=>x))),fun k e n hs=>?_,fun _ hx=>hx,fun k hk hE=>⟨hE,gG k fun e=>(hR.pend k hE).2 (e ▸ hOw)⟩,hq,rfl⟩
  ·have:i<h.n:=hR.dom i (by rw[hp];simp)
   simp only[Ctx.next]
   rw[if_neg (by omega)];exact hp
  ·by_cases ek:k=b
   ·subst ek;exact eC e n hs
   ·simp only[World.shape?,Ctx.next]at hs ⊢
    rw[gG k ek];exact hs
 refine⟨⟨sE (zO hR.len),Nat.le_succ_of_le hR.lim,?_,?_,?_,fun _=>Iff.rfl,fun k hk=>hR.notX k ((hR.own k).2 (hk.imp (fZ k) (fun x=>x))),fun k hk=>by simpa[Ctx.next,←kO]using hR.old k hk,
  fun k hk=>⟨by simpa[Ctx.next,←kO]using(hR.pend k hk).1,fun ho=>(hR.pend k hk).2 (fZ k ho)⟩,hR.glob.mono cM⟩,cM⟩
 ·intro i hi
  rw[Bg,hn]
  by_cases e:i=h.n
  ·omega
  ·simp only[Ctx.next,if_neg e]at hi;have:=hR.dom i hi;omega
 ·intro i oi sU
  by_cases pT:gF oi=true
  ·rcases jQ i oi sU pT with⟨e,e2⟩|⟨e,e2,hgi'⟩
   ·subst e;subst e2;exact Oa cM
   ·refine(hR.obj i oi hgi').mono cM fun _ k x nX=>gG k fun ek=>e2 ?_
    subst ek
    exact hR.inj i id oi ob k x base hgi' hg pT ha nX hr
  ·cases oi<;>simp[gF]at pT
   trivial
 ·intro i j oi oj k x y hi hj pT Le nX wW
  simp only[Ctx.next]at nX wW
  rcases jQ i oi hi pT with⟨e1,_⟩|⟨e1,n1,g1⟩<;>rcases jQ j oj hj Le with⟨e2,_⟩|⟨e2,n2,g2⟩
  ·omega
  ·simp only[if_pos e1]at nX;simp only[if_neg e2]at wW
   cases nX
   exact absurd (hR.inj j id oj ob b y base g2 hg Le ha wW hr) n2
  ·simp only[if_neg e1]at nX;simp only[if_pos e2]at wW
   cases wW
   exact absurd (hR.inj i id oi ob b x base g1 hg pT ha nX hr) n1
  ·simp only[if_neg e1]at nX;simp only[if_neg e2]at wW
   exact hR.inj i j oi oj k x y g1 g2 pT Le nX wW
theorem rE{xs ys:List DV}{k:Nat}(cM:k+ys.length≤xs.length):(cN xs ys k).length=xs.length:=by
 simp[cN];omega
theorem Es{xs ys:List DV}{k:Nat}(cM:k+ys.length≤xs.length)(q:Nat):(cN xs ys k)[q]?=if q<k then xs[q]? else if q<k+ys.length then ys[q-k]? else xs[q]?:=by
 have hl:(xs.take k).length=k:=by simp;omega
 simp only[cN,List.append_assoc]
 rw[List.getElem?_append,hl]
 split
 ·rename_i hq;rw[List.getElem?_take,if_pos hq]
 ·rw[List.getElem?_append]
  split
  ·rw[if_pos (by omega)]
  ·rw[if_neg (by omega),List.getElem?_drop]
   congr 1
   omega
theorem nO{xs ys:List DV}{sz base k m:Nat}{cur:Array Value}{news:List Value}(hE:gU c xs sz cur base)(kO:cur.size=base+m*sz)(hm:xs.length≤m)(iT:jF c sz ys news)(cM:k+ys.length≤xs.length) :
  base+k*sz+news.length≤cur.size∧gU c (cN xs ys k) sz (spl cur (base+k*sz) news) base:=by
 have hb:base+k*sz+news.length≤cur.size:=by
  have:(k+ys.length)*sz≤m*sz:=Nat.mul_le_mul_right _ (by omega)
  rw[Nat.add_mul]at this
  rw[iT.1];omega
 refine⟨hb,mY.2 fun i d hd=>?_⟩
 have hE':=mY.1 hE
 rw[Es cM]at hd
 split at hd
 ·rename_i hik
  obtain⟨w1,w2⟩:=hE' i d hd
  refine⟨w1,w2.other hb (.inl ?_)⟩
  rw[w1]
  have:(i+1)*sz≤k*sz:=Nat.mul_le_mul_right _ hik
  rw[Nat.add_mul]at this
  omega
 ·rename_i hik
  split at hd
  ·rename_i hik2
   obtain⟨w1,w2⟩:=iT.2.2 _ d hd
   refine⟨w1,fun j e he=>?_⟩
   obtain⟨u,b1,b2⟩:=w2 j e he
   have Yy:=(List.getElem?_eq_some_iff.1 b1).1
   refine⟨u,?_,iT.2.1 u (List.mem_of_getElem? b1),b2⟩
   have hmul:(i-k)*sz+k*sz=i*sz:=by rw[←Nat.add_mul];congr 1;omega
   rw[qK hb,if_neg (by omega),if_pos (by omega)]
   rw[←b1];congr 1;omega
  ·rename_i hik2
   obtain⟨w1,w2⟩:=hE' i d hd
   refine⟨w1,w2.other hb (.inr ?_)⟩
   rw[iT.1]
   have:(k+ys.length)*sz≤i*sz:=Nat.mul_le_mul_right _ (by omega)
   rw[Nat.add_mul]at this
   omega
theorem rP(hR:Rel h c){e:TypeId}{sz bytes:Nat}(eI:0<sz){ys:List DV}{news:List Value}(iT:jF c sz ys news){run:Value→Result Value}
  (A0:ys=[]→∀base sLen sCap,sLen≤sCap→run (.slice base sLen sCap)=.ok (.slice base sLen sCap) c.w)
  (A1:∀b co sLen sCap cur ety,c.w.heap[b]?=some (.cells cur ety (0,0))→sLen+ys.length≤sCap→(sLen+ys.length)*bytes≤140737488355328→co+sLen*sz+news.length≤cur.size →
   run (.slice (some ⟨b,co,none⟩) sLen sCap)=.ok (.slice (some ⟨b,co,none⟩) (sLen+ys.length) sCap) (c.w.setRow b (spl cur (co+sLen*sz) news)))
  (A2:∀base sLen sCap (olds:List Value),(Builtin.firstCells sz sLen (.slice base sLen sCap)).run P c.w.drew=.ok olds.toArray c.w.drew→sCap<sLen+ys.length→sLen+ys.length≤9223372036854775807→(sLen+ys.length)*bytes≤140737488355328 →
   ∃ ncap zs,sLen+ys.length≤ncap∧(zs.size=(ncap-(sLen+ys.length))*sz∧mF zs)∧run (.slice base sLen sCap)=.ok (.slice (some ⟨c.w.heap.size,0,none⟩) (sLen+ys.length) ncap) (c.w.drew.alloc (.cells ((olds++news).toArray++zs) e)))
  {s:DV} {v:Value} (hv:VR c s v) (hs:bF h e sz bytes s ys=some (r,h')):∃ v' w',run v=.ok v' w'∧lF h c h' w' r v':=by
 unfold bF at hs
 split at hs
 ·obtain⟨ad,dN⟩:=hv.nsl_inv
  subst dN
  split at hs
  ·rename_i hy
   have OQ:ys=[]:=by simpa using hy
   cases hs
   exact⟨_,_,A0 OQ ad 0 0 (Nat.le_refl _),lF.pure hR (.nsl ad)⟩
  ·rename_i hy
   have OQ:0<ys.length:=by
    rcases Nat.eq_zero_or_pos ys.length with e0|e0
    ·exact absurd (List.eq_nil_of_length_eq_zero e0) (by simpa using hy)
    ·exact e0
   split at hs
   ·rename_i hb
    cases hs
    obtain⟨ncap,zs,n1,n2,n3⟩:=A2 ad 0 0 [] (by cases ad with|none=>rfl|some adr=>simpa using run_firstCells_some (P:=P) c.w.drew sz 0 adr 0 0 [] (by simp) (by simp)) (by omega) (by omega) (by simpa using hb.1)
    simp only[Nat.zero_add,List.nil_append]at n1 n2 n3
    exact⟨_,_,n3,xS hR rfl eI iT rfl n1 n2.1 n2.2⟩
   ·cases hs
 ·rename_i id dT off len
  split at hs
  ·rename_i hy
   have OQ:ys=[]:=by simpa using hy
   cases hs
   obtain⟨b,base,fU,gX,nn,nT,dN,hρ,eC,zU,zX,Di⟩:=hv.sl_inv
   exact⟨_,_,by rw[dN];exact A0 OQ _ len fU zX,lF.pure hR (dN ▸ hv)⟩
  ·rename_i hy
   have OQ:0<ys.length:=by
    rcases Nat.eq_zero_or_pos ys.length with e0|e0
    ·exact absurd (List.eq_nil_of_length_eq_zero e0) (by simpa using hy)
    ·exact e0
   split at hs
   ·rename_i ety kE xs cap hg
    split at hs
    ·rename_i bU
     obtain⟨e1,e2,e3,cM,As,hb2⟩:=bU
     subst e1;subst e2;subst e3
     obtain⟨b,base,fU,gX,nn,nT,dN,hρ,eC,zU,zX,Di⟩:=hv.sl_inv
     obtain⟨cur,mm,g1,g2,g3,g4,g5,g6⟩:=hR.arr hg hρ
     have GL:=dU g1
     rw[GL]at eC
     cases eC
     have mI:=zA g2 g3 zU
     have hslE:elems h sz (.sl id sz off len)=some ((xs.drop off).take len):=by
      simp only[elems,hg]
      rw[if_pos ⟨trivial,trivial,cM⟩]
     have hslen:((xs.drop off).take len).length=len:=by simp;omega
     have grow:fU<len+ys.length→∃ olds ncap zs,jF c sz ((xs.drop off).take len++ys) (olds++news)∧len+ys.length≤ncap∧(zs.size=(ncap-(len+ys.length))*sz∧mF zs) ∧
       run v=.ok (.slice (some ⟨c.w.heap.size,0,none⟩) (len+ys.length) ncap) (c.w.drew.alloc (.cells ((olds++news).toArray++zs) e)):=by
      intro KP
      obtain⟨ad,capv,olds,q1,q2,q3,q4,q5⟩:=lM hR hslE hv
      rw[dN]at q1
      simp only[Value.slice.injEq]at q1
      obtain⟨qa,qb,qc⟩:=q1
      subst qa;subst qc
      have GR:=Ba (P:=P) (sz:=sz) (n:=len) (cap:=fU) (ad:=some ⟨b,gX,none⟩) (news:=olds) (by rw[q3.1,hslen]) (by simp) (w:=c.w) (w':=c.w.drew) rfl q5
      obtain⟨ncap,zs,n1,n2,n3⟩:=A2 (some ⟨b,gX,none⟩) len fU olds GR KP hb2 As
      exact⟨olds,ncap,zs,q3.append iT,n1,n2,by rw[dN];exact n3⟩
     have fits:len+ys.length≤fU→gX=base+off*sz∧∀lW:base+(off+len)*sz+news.length≤cur.size,run v=.ok (.slice (some ⟨b,gX,none⟩) (len+ys.length) fU) (c.w.setRow b (spl cur (base+(off+len)*sz) news)):=by
      intro hft
      have nS:gX=base+off*sz:=Di.elim (fun e=>e) (fun e=>by omega)
      refine⟨nS,fun lW=>?_⟩
      have:=A1 b gX len fU cur e g1 hft As (by rw[nS];rw[Nat.add_mul]at lW;omega)
      rw[dN,this,nS,Nat.add_mul,Nat.add_assoc]
     split at hs
     ·rename_i sT
      split at hs
      ·cases hs
       obtain⟨lW,nI⟩:=nO g6 g3 g4 iT (k:=off+len) (by omega)
       obtain⟨nS,hJ⟩:=fits (by omega)
       obtain⟨k1,k2⟩:=hR.write hg hρ g1 g2 g3 (cN xs ys (off+len)) (rE (by omega)) g4 g5 (base+(off+len)*sz) news lW iT.2.1 nI
       refine⟨_,_,hJ lW,c.ρ,k1,k2,?_⟩
       have hsh':(c.w.setRow b (spl cur (base+(off+len)*sz) news)).shape? b=some (e,cur.size):=by
        rw[dU (setRow_heap c.w b cur _ e (0,0) g1),pQ lW]
       exact .sl hρ hsh' zU (by omega) (.inl nS)
      ·cases hs
     ·rename_i hout
      split at hs
      ·rename_i k
       cases hs
       have hk:=g5 k rfl
       obtain⟨olds,ncap,zs,p1,p2,p3,p4⟩:=grow (by omega)
       exact⟨_,_,p4,xS hR rfl eI p1 (by simp;omega) p2 p3.1 p3.2⟩
      ·split at hs
       ·cases hs
        by_cases KP:len+ys.length≤fU
        ·obtain⟨nS,hJ⟩:=fits KP
         have hbnd:base+(off+len)*sz+news.length≤cur.size:=by
          have:(off+len+ys.length)*sz≤mm*sz:=Nat.mul_le_mul_right _ (by omega)
          rw[Nat.add_mul]at this
          rw[iT.1];omega
         have hsh':(c.w.setRow b (spl cur (base+(off+len)*sz) news)).shape? b=some (e,cur.size):=by
          rw[dU (setRow_heap c.w b cur _ e (0,0) g1),pQ hbnd]
         obtain⟨k1,k2⟩:=hR.moved (.arr e sz ((xs.drop off).take len++ys) none) hg rfl rfl (base':=base+off*sz) hρ (c.w.setRow b (spl cur (base+(off+len)*sz) news)) (by simp) (fun k hk=>setRow_other _ _ _ _ hk)
          (fun e2 n Ar=>by rw[GL]at Ar;cases Ar;exact hsh') (.at g1 (setRow_heap c.w b cur _ e (0,0) g1) (fun k hk=>setRow_other _ _ _ _ hk) rfl rfl rfl rfl)
          (fun hle'=>by
           refine⟨b,base+off*sz,spl cur (base+(off+len)*sz) news,fU,by simp[Ctx.next],setRow_heap c.w b cur _ e (0,0) g1,eI,by rw[pQ hbnd];omega,by rw[List.length_append,hslen];exact KP,(fun k hk=>by cases hk),Fw (hR.oneRow hg hρ g1) hbnd iT.2.1,?_⟩
           refine gU.mono' ?_ hle'
           have hfirst:=(uT g6 g3 off len cM g4)
           refine(hfirst.append iT).toElems fun j u hj=>?_
           have GS:((cur.toList.drop (base+off*sz)).take (len*sz)).length=len*sz:=by rw[hfirst.1,hslen]
           rw[qK hbnd]
           rw[List.getElem?_append,GS]at hj
           have hmul:base+(off+len)*sz=base+off*sz+len*sz:=by rw[Nat.add_mul];omega
           split at hj
           ·rename_i Yy
            rw[if_pos (by omega)]
            rw[List.getElem?_take,if_pos Yy,List.getElem?_drop,Array.getElem?_toList]at hj
            exact hj
           ·rename_i Yy
            have:=(List.getElem?_eq_some_iff.1 hj).1
            rw[if_neg (by omega),if_pos (by omega)]
            rw[←hj];congr 1;omega)
         refine⟨_,_,hJ hbnd,_,k1,k2,?_⟩
         exact .sl (base:=base+off*sz) (by simp[Ctx.next]) hsh' (by rw[Nat.zero_mul];omega) KP (.inl (by rw[nS];omega))
        ·obtain⟨olds,ncap,zs,p1,p2,p3,p4⟩:=grow (by omega)
         obtain⟨k1,k2⟩:=hR.kill hg
         have hpost:=xS (c:=c.next c.w c.ρ (h.set id .dead)) k1 (w':=c.w.drew.alloc (.cells ((olds++news).toArray++zs) e)) rfl eI (p1.mono k2) (need:=len+ys.length) (by simp;omega) p2 p3.1 p3.2
         obtain⟨ρ',m1,m2,m3⟩:=hpost
         exact⟨_,_,p4,ρ',m1,k2.trans m2,m3⟩
       ·cases hs
    ·cases hs
   ·cases hs
 ·cases hs
end
end Go.Dm
/-
Part 11 of "Dm": append, copy, clear, make, as operations; slices and structs that are built.
-/
namespace Go.Dm
section
variable {P:Program} {h h':aA} {c:Ctx} {env:Env} {a:Act} {o:Oper} {r:DV}
theorem BW{t u e:TypeId}{sz bytes:Nat}{z:DV}{s x:Operand}{s' x':Opd}(ho:o.op=.call {callee:=.builtin .append,args:=#[s,x],argTypes:=#[t,u]})(ht:P.underlying t=some (.slice e))(hu:P.underlying u=some (.slice e))
  (he:dY P e=some (sz,bytes,z)) (Ar:opd s=some s') (hx:opd x=some x') (hR:Rel h c) (hE:cI c env a) (hs:aC h env (.append e sz bytes s' x')=some (r,h')):fK P h c o a h' r:=by
 have vs:=bI Ar hE
 have vx:=bI hx hE
 obtain⟨i,z0,hi,e1,e2,hz,yM,eI,dD⟩:=fA he
 subst e1;subst e2
 obtain⟨hz3,JZ,hz4⟩:=dQ dD (eM yM c)
 have Ky:∀j (hj:j<z0.cells.size),(z0.cells[j]).oneCell'=true:=fun j hj=>(hz4 j (by omega) hj).2
 simp only[aC]at hs
 split at hs
 ·rename_i ys yN
  obtain⟨ad,cap,news,q1,q2,q3,q4,q5⟩:=lM hR yN vx
  obtain⟨v',w',h1,h2⟩:=rP (P:=P) hR eI q3 (run:=fun v=>(Builtin.append_ #[t,u] o.type #[v,a.eval x]).run P c.w)
   (fun hy base sLen sCap cM=>by
    subst hy
    rw[q1]
    exact Vc ht hu hi cM)
   (fun b co sLen sCap cur ety g1 mI _ lW=>by
    rw[q1]
    exact Vd ht hu hi g1 (Ba q3.1 (fun hn=>by rw[q4 hn];rfl) rfl q5) q3.2.1 mI lW)
   (fun base sLen sCap olds GR hg h63 hb=>by
    refine⟨_,Builtin.zeroCells z0.cells (grownCap c.w (sLen+ys.length) sCap e-(sLen+ys.length)),grownCap_ge _ _ _ _,⟨by rw[cU,JZ],tI Ky⟩,?_⟩
    rw[q1]
    have hf:=Ba (P:=P) (cap:=cap) q3.1 (fun hn=>by rw[q4 hn];rfl) (w:=c.w) (w':=c.w.drew) rfl q5
    have:=Pi (P:=P) (ty:=o.type) ht hu hi hz (w:=c.w) GR hf hg h63 hb
    rw[this]
    congr 3
    apply Array.ext'
    simp)
   vs hs
  exact⟨.value v',v',w',by rw[cP ho];simp[builtin,h1],.inl rfl,h2⟩
 ·cases hs
theorem qL{sz n:Nat}{z:DV}{z0:Value}(eI:0<sz)(dD:aU sz z=true)(hv:VR c z z0):jF c sz (List.replicate n z) (Builtin.zeroCells z0.cells n).toList:=by
 obtain⟨s1,s2,s3⟩:=dQ dD hv
 have uG:0<z0.cells.size:=by omega
 refine⟨by simp[cU,s2],fun u hu=>?_,fun i d hd=>?_⟩
 ·obtain⟨q,hq⟩:=List.getElem?_of_mem hu
  rw[Array.getElem?_toList]at hq
  have aY:=(Array.getElem?_eq_some_iff.1 hq).1
  rw[cU]at aY
  rw[rC uG aY]at hq
  cases hq
  exact(s3 _ (by rw[s1,←s2];exact Nat.mod_lt _ uG) (Nat.mod_lt _ uG)).2
 ·rw[List.getElem?_replicate]at hd
  split at hd
  ·rename_i hi
   cases hd
   refine⟨s1,fun j e he=>?_⟩
   obtain⟨hj,rfl⟩:=List.getElem?_eq_some_iff.1 he
   have sS:=hj
   rw[s1]at sS
   have hq:i*sz+j<n*z0.cells.size:=by rw[s2];exact pK hi sS
   refine⟨z0.cells[j]'(by omega),?_,(s3 j hj (by omega)).1⟩
   rw[Array.getElem?_toList,rC uG hq]
   congr 1
   congr 1
   rw[s2,Nat.mul_comm,Nat.mul_add_mod,Nat.mod_eq_of_lt sS]
  ·cases hd
theorem N9{t u e:TypeId}{k:IntKind}{sz bytes:Nat}{z:DV}{s x:Operand}{s' x':Opd}(ho:o.op=.call {callee:=.builtin .append,args:=#[s,x],argTypes:=#[t,u]})(ht:P.underlying t=some (.slice e))(hu:P.underlying u=some (.int k))
  (he:dY P e=some (sz,bytes,z)) (Ar:opd s=some s') (hx:opd x=some x') (hR:Rel h c) (hE:cI c env a) (hs:aC h env (.appendZ e sz bytes z s' x')=some (r,h')):fK P h c o a h' r:=by
 have vs:=bI Ar hE
 have vx:=bI hx hE
 obtain⟨i,z0,hi,e1,e2,hz,yM,eI,dD⟩:=fA he
 subst e1;subst e2
 obtain⟨hz3,JZ,hz4⟩:=dQ dD (eM yM c)
 have Ky:∀j (hj:j<z0.cells.size),(z0.cells[j]).oneCell'=true:=fun j hj=>(hz4 j (by omega) hj).2
 simp only[aC]at hs
 split at hs
 ·rename_i n hn
  obtain⟨kx,hkx⟩:=vV hn vx
  split at hs
  ·rename_i bU
   obtain⟨c1,c2⟩:=bU
   obtain⟨m,rfl⟩:=Int.eq_ofNat_of_zero_le c1
   simp only[Int.toNat_natCast]at hs
   have hm:m≤140737488355328:=by omega
   have hw:IntKind.i64.wrap (m:Int)=m:=by rw[IntKind.wrap_i64];omega
   have Ob:¬((m:Int)<0):=by omega
   have iT:=qL (c:=c) (n:=m) eI dD (eM yM c)
   have cB:(List.replicate m z).length=m:=by simp
   obtain⟨v',w',h1,h2⟩:=rP (P:=P) hR eI iT (run:=fun v=>(Builtin.append_ #[t,u] o.type #[v,a.eval x]).run P c.w)
    (fun hy base sLen sCap cM=>by
     have F9:m=0:=by simpa using hy
     subst F9
     have hb:¬((0:Int) > 281474976710656):=by omega
     simp only[hkx]
     cases base<;>simp[Builtin.append_,run_underlying ht,run_underlying hu,sizeOf,typeInfo,hi,asInt,asIntOf,cM,storeCells,IntKind.wrap_i64])
    (fun b co sLen sCap cur ety g1 mI hb lW=>by
     rw[cB]at mI hb
     have Ip:¬(281474976710656<(m:Int)*(i.bytes:Int)):=by
      have:m*i.bytes≤(sLen+m)*i.bytes:=Nat.mul_le_mul_right _ (by omega)
      rw[←Int.natCast_mul];omega
     have Gn:=jM (P:=P) g1 _ lW iT.2.1
     simp only[hkx,cB]
     by_cases F9:m=0
     ·subst F9
      have:(Builtin.zeroCells z0.cells 0).toList=[]:=List.eq_nil_of_length_eq_zero (by simp[cU])
      rw[this]at Gn ⊢
      simp only[Nat.add_zero]at mI
      simp[Builtin.append_,run_underlying ht,run_underlying hu,sizeOf,typeInfo,hi,asInt,asIntOf,mI,IntKind.wrap_i64,Addr.add_lit,Gn]
     ·have hms:¬(m*i.size=0):=Nat.mul_ne_zero F9 (by omega)
      simp[Builtin.append_,run_underlying ht,run_underlying hu,sizeOf,typeInfo,zeroValue,hi,hz,asInt,asIntOf,hw,Ob,Ip,mI,hms,Addr.add_lit,Gn])
    (fun base sLen sCap olds GR hg h63 hb=>by
     rw[cB]at hg h63 hb
     have Ip:¬(281474976710656<(m:Int)*(i.bytes:Int)):=by
      have:m*i.bytes≤(sLen+m)*i.bytes:=Nat.mul_le_mul_right _ (by omega)
      rw[←Int.natCast_mul];omega
     have KI:¬(sLen+m≤sCap):=by omega
     have h63':¬(9223372036854775807<((sLen:Int)+(m:Int))):=by omega
     have Ze:¬(281474976710656<Builtin.nextslicecap (sLen+m) sCap*i.bytes):=by have:=growslice_fits hg hb;omega
     have F9:m≠0∨m=0:=by omega
     refine⟨grownCap c.w (sLen+m) sCap e,Builtin.zeroCells z0.cells (grownCap c.w (sLen+m) sCap e-(sLen+m)),by rw[cB];exact grownCap_ge _ _ _ _,⟨by rw[cU,JZ,cB],tI Ky⟩,?_⟩
     simp only[hkx,cB]
     rcases F9 with F9|F9
     ·have hms:¬(m*i.size=0):=Nat.mul_ne_zero F9 (by omega)
      simp[Builtin.append_,run_underlying ht,run_underlying hu,sizeOf,typeInfo,zeroValue,hi,hz,asInt,asIntOf,hw,Ob,Ip,KI,hms,h63',Ze,Question.forced,GR,newRow,grownCap]
      congr 2
      apply Array.ext'
      simp[List.append_assoc]
     ·subst F9
      have hze:(Builtin.zeroCells z0.cells 0)=#[]:=by apply Array.eq_empty_of_size_eq_zero;simp[cU]
      simp only[Nat.add_zero]at KI Ze 
      simp[Builtin.append_,run_underlying ht,run_underlying hu,sizeOf,typeInfo,zeroValue,hi,hz,asInt,asIntOf,KI,Ze,IntKind.wrap_i64,Question.forced,GR,newRow,grownCap,hze]
      omega)
    vs hs
   exact⟨.value v',v',w',by rw[cP ho];simp[builtin,h1],.inl rfl,h2⟩
  ·cases hs
 ·cases hs
end
end Go.Dm
/-
Part 12 of "Dm": copy, clear, make, slices and structs that are built.
-/
namespace Go.Dm
section
variable {P:Program} {h h':aA} {c:Ctx} {env:Env} {a:Act} {o:Oper} {r:DV}
theorem jF.take{sz:Nat}{ys:List DV}{vs:List Value}(h1:jF c sz ys vs)(n:Nat):jF c sz (ys.take n) (vs.take (n*sz)):=by
 refine⟨?_,fun u hu=>h1.2.1 u (List.mem_of_mem_take hu),fun i d hd=>?_⟩
 ·rw[List.length_take,List.length_take,h1.1]
  rcases Nat.le_total n ys.length with cM|cM
  ·rw[Nat.min_eq_left cM,Nat.min_eq_left (Nat.mul_le_mul_right _ cM)]
  ·rw[Nat.min_eq_right cM,Nat.min_eq_right (Nat.mul_le_mul_right _ cM)]
 ·rw[List.getElem?_take]at hd
  split at hd
  ·rename_i hi
   obtain⟨a1,a2⟩:=h1.2.2 i d hd
   refine⟨a1,fun j e he=>?_⟩
   obtain⟨u,b1,b2⟩:=a2 j e he
   have hj:=(List.getElem?_eq_some_iff.1 he).1
   rw[a1]at hj
   exact⟨u,by rw[List.getElem?_take,if_pos (pK hi hj)];exact b1,b2⟩
  ·cases hd
theorem Cu(hR:Rel h c){sz:Nat}{d:DV}{v:Value}{ys:List DV}{news:List Value}(hv:VR c d v)(iT:jF c sz ys news)(hs:vO h sz d ys=some (r,h')) :
  ∃ base dLen dCap,v=.slice base dLen dCap∧r=.int .i64 (Nat.min ys.length dLen:Nat)∧(base=none→dLen=0) ∧
   ∃ w',(∀adr,base=some adr→(storeCells adr (news.take (Nat.min ys.length dLen*sz))).run P c.w=.ok () w')∧(base=none→w'=c.w)∧lF h c h' w' r (goInt (Nat.min ys.length dLen:Nat)):=by
 unfold vO at hs
 split at hs
 ·cases hs
  obtain⟨ad,e⟩:=hv.nsl_inv
  exact⟨ad,0,0,e,by simp,fun _=>rfl,c.w,(fun adr _=>by simp[storeCells]),fun _=>rfl,by simpa[goInt]using lF.pure hR (.int .i64 0)⟩
 ·rename_i id dT off len
  split at hs
  ·rename_i ety kE xs cap hg
   split at hs
   ·rename_i bU
    obtain⟨e1,e2,cM,aS⟩:=bU
    subst e1;subst e2
    cases hs
    obtain⟨b,base,fU,gX,nn,nT,dN,hρ,eC,zU,zX,Di⟩:=hv.sl_inv
    obtain⟨cur,mm,g1,g2,g3,g4,g5,g6⟩:=hR.arr hg hρ
    have GO:(ys.take len).length=Nat.min ys.length len:=by rw[List.length_take,Nat.min_comm]
    have hrow':=iT.take len
    have htake:news.take (len*sz)=news.take (Nat.min ys.length len*sz):=by
     rcases Nat.le_total ys.length len with hl|hl
     ·have e1:Nat.min ys.length len=ys.length:=Nat.min_eq_left hl
      rw[e1,List.take_of_length_le (by rw[iT.1];exact Nat.mul_le_mul_right _ hl),List.take_of_length_le (by rw[iT.1];exact Nat.le_refl _)]
     ·have e1:Nat.min ys.length len=len:=Nat.min_eq_right hl
      rw[e1]
    obtain⟨lW,nI⟩:=nO g6 g3 g4 hrow' (k:=off) (by have:=List.length_take_le len ys;omega)
    obtain⟨k1,k2⟩:=hR.write hg hρ g1 g2 g3 (cN xs (ys.take len) off) (rE (by have:=List.length_take_le len ys;omega)) g4 g5 (base+off*sz) (news.take (len*sz)) lW (fun v hv=>iT.2.1 v (List.mem_of_mem_take hv)) nI
    refine⟨some ⟨b,gX,none⟩,len,fU,dN,by rw[GO],(fun h=>by cases h),c.w.setRow b (spl cur (base+off*sz) (news.take (len*sz))),fun adr hadr=>?_,(fun h=>by cases h),c.ρ,k1,k2,by rw[GO];exact .int _ _⟩
    cases hadr
    rw[←htake]
    by_cases G0:len=0
    ·subst G0
     have xG:news.take (0*sz)=[]:=by simp
     rw[xG]
     have hself:c.w.setRow b (spl cur (base+off*sz) [])=c.w:=by
      have:spl cur (base+off*sz) []=cur:=by simp[spl]
      rw[this]
      exact setRow_self c.w b cur ety (0,0) g1
     rw[hself]
     rfl
    ·have nS:gX=base+off*sz:=Di.elim (fun e=>e) (fun e=>by omega)
     rw[nS]
     exact jM (P:=P) g1 _ lW hrow'.2.1
   ·cases hs
  ·cases hs
 ·cases hs
theorem NW{t u e:TypeId}{i:TypeInfo}{d s:Operand}{d' s':Opd}(ho:o.op=.call {callee:=.builtin .copy,args:=#[d,s],argTypes:=#[t,u]})(ht:P.underlying t=some (.slice e))(hi:P.info? e=some i)
  (hd:opd d=some d') (Ar:opd s=some s') (hR:Rel h c) (hE:cI c env a) (hs:aC h env (.copy i.size d' s')=some (r,h')):fK P h c o a h' r:=by
 have vd:=bI hd hE
 have vs:=bI Ar hE
 simp only[aC]at hs
 split at hs
 ·rename_i ys yN
  obtain⟨ad,cap,news,q1,q2,q3,q4,q5⟩:=lM hR yN vs
  obtain⟨base,dLen,dCap,p1,p2,p3,w',p4,p5,p6⟩:=Cu (P:=P) hR vd q3 hs
  refine⟨.value (goInt (Nat.min ys.length dLen:Nat)),_,w',?_,.inl rfl,p6⟩
  rw[cP ho]
  have hf:(Builtin.firstCells i.size (Nat.min ys.length dLen) (.slice ad ys.length cap)).run P c.w=.ok (news.take (Nat.min ys.length dLen*i.size)).toArray c.w:=by
   cases ad with
   | none =>
    have:=q4 rfl
    subst this
    have hn:news=[]:=List.eq_nil_of_length_eq_zero (by simpa using q3.1)
    subst hn
    simp[Builtin.firstCells]
   | some adr =>
    refine run_firstCells_some c.w i.size _ adr ys.length cap _ ?_ (fun j v hj=>?_)
    ·rw[List.length_take,q3.1]
     exact Nat.min_eq_left (Nat.mul_le_mul_right _ (Nat.min_le_left _ _))
    ·rw[List.getElem?_take]at hj
     split at hj
     ·exact q5 adr rfl j v hj
     ·cases hj
  cases base with
  | none =>
   have:=p5 rfl
   subst this
   simp[builtin,Builtin.copy_,run_underlying ht,p1,q1,Builtin.lenOf,sizeOf,typeInfo,hi,hf]
  | some adr =>
   have:=p4 adr rfl
   simp[builtin,Builtin.copy_,run_underlying ht,p1,q1,Builtin.lenOf,sizeOf,typeInfo,hi,hf,this]
 ·cases hs
theorem IN{t e:TypeId}{sz bytes:Nat}{z:DV}{x:Operand}{x':Opd}(ho:o.op=.call {callee:=.builtin .clear,args:=#[x],argTypes:=#[t]})(ht:P.underlying t=some (.slice e))(he:dY P e=some (sz,bytes,z))
  (hx:opd x=some x') (hR:Rel h c) (hE:cI c env a) (hs:aC h env (.clear sz z x')=some (r,h')):fK P h c o a h' r:=by
 have vx:=bI hx hE
 obtain⟨i,z0,hi,e1,e2,hz,yM,eI,dD⟩:=fA he
 have GK:VR c (.tup []) (.tuple #[]):=.tup (ds:=[]) (vs:=[]) rfl (fun i h1 _=>absurd h1 (by simp))
 simp only[aC]at hs
 split at hs
 ·rename_i hv
  cases hs
  rw[hv]at vx
  obtain⟨ad,dN⟩:=vx.nsl_inv
  exact fK.value hR (.tuple #[]) (by rw[cP ho];cases ad<;>simp[builtin,Builtin.clear_,run_underlying ht,dN]) GK
 ·rename_i hv
  cases hs
  rw[hv]at vx
  rcases vx.isl_inv with⟨_,ad,cap,dN⟩|⟨b,o',cap,vals,dN,_⟩
  ·exact fK.value hR (.tuple #[]) (by rw[cP ho];cases ad<;>simp[builtin,Builtin.clear_,run_underlying ht,dN]) GK
  ·exact fK.value hR (.tuple #[]) (by rw[cP ho];simp[builtin,Builtin.clear_,run_underlying ht,dN]) GK
 ·rename_i id dT off len hv
  rw[hv]at vx
  split at hs
  ·rename_i hl
   cases hs
   subst hl
   obtain⟨b,base,fU,gX,nn,nT,dN,_⟩:=vx.sl_inv
   exact fK.value hR (.tuple #[]) (by rw[cP ho];simp[builtin,Builtin.clear_,run_underlying ht,dN]) GK
  ·rename_i hl
   split at hs
   ·rename_i r' h'' hc
    cases hs
    obtain⟨base,dLen,dCap,p1,p2,p3,w',p4,p5,ρ',p6,p7,p8⟩:=Cu (P:=P) hR vx (qL (c:=c) (n:=len) eI dD (eM yM c)) hc
    obtain⟨b,base',fU,gX,nn,nT,dN,_⟩:=vx.sl_inv
    rw[dN]at p1
    simp only[Value.slice.injEq]at p1
    obtain⟨pa,pb,pc⟩:=p1
    subst pa;subst pb;subst pc
    have hmin:Nat.min (List.replicate len z).length len=len:=by simp
    rw[hmin]at p4
    have hJ:=p4 _ rfl
    obtain⟨_,JZ,_⟩:=dQ dD (eM yM c)
    have hfull:(Builtin.zeroCells z0.cells len).toList.take (len*sz)=(Builtin.zeroCells z0.cells len).toList:=List.take_of_length_le (by simp[cU,JZ])
    rw[hfull]at hJ
    refine⟨.value (.tuple #[]),_,w',?_,.inl rfl,ρ',p6,p7,.tup (ds:=[]) (vs:=[]) rfl (fun i h1 _=>absurd h1 (by simp))⟩
    rw[cP ho]
    have Od:∃ k,len=k+1:=⟨len-1,by omega⟩
    obtain⟨k,rfl⟩:=Od
    simp[builtin,Builtin.clear_,run_underlying ht,dN,zeroValue,typeInfo,hi,hz,hJ]
   ·cases hs
 ·cases hs
theorem Re{t e:TypeId}{sz bytes:Nat}{z:DV}{l m:Operand}{l' m':Opd}(ho:o.op=.makeSlice t l m)(ht:P.underlying t=some (.slice e))(he:dY P e=some (sz,bytes,z))
  (hl:opd l=some l') (hm:opd m=some m') (hR:Rel h c) (hE:cI c env a) (hs:aC h env (.makeSlice e sz bytes z l' m')=some (r,h')):fK P h c o a h' r:=by
 have vl:=bI hl hE
 have vm:=bI hm hE
 obtain⟨i,z0,hi,e1,e2,hz,yM,eI,dD⟩:=fA he
 subst e1;subst e2
 simp only[aC]at hs
 split at hs
 ·rename_i nl nm hnl hnm
  obtain⟨kl,hkl⟩:=vV hnl vl
  obtain⟨km,hkm⟩:=vV hnm vm
  split at hs
  ·rename_i bU
   obtain⟨c1,c2,c3,c4⟩:=bU
   simp only[Option.some.injEq,Prod.mk.injEq]at hs
   obtain⟨rfl,rfl⟩:=hs
   obtain⟨p,rfl⟩:=Int.eq_ofNat_of_zero_le c1
   obtain⟨q,rfl⟩:=Int.eq_ofNat_of_zero_le (Int.le_trans c1 c2)
   simp only[Int.toNat_natCast]
   obtain⟨s1,s2,s3⟩:=dQ dD (eM yM c)
   have hq:q≤140737488355328:=by omega
   have F7:p≤q:=by omega
   have w1:IntKind.i64.wrap (p:Int)=p:=by rw[IntKind.wrap_i64];omega
   have w2:IntKind.i64.wrap (q:Int)=q:=by rw[IntKind.wrap_i64];omega
   have iT:=qL (c:=c) (n:=q) eI dD (eM yM c)
   obtain⟨ρ',k1,k2,k3,k4⟩:=Dt hR {c.w with heap:=c.w.heap.push (.cells (Builtin.zeroCells z0.cells q) e)} (m:=q) (cap:=some q) (xs:=List.replicate q z) rfl eI (by rw[cU,s2]) (by simp) (fun k hk=>by cases hk;simp) (qN (m:=q) (iT.toElems fun j u hj=>by rw[Nat.zero_add];simpa using hj) eI (by rw[cU,s2]) (by simp))
    (iT.toElems fun j u hj=>by rw[Nat.zero_add];simpa using hj)
   refine⟨.value (.slice (some ⟨c.w.heap.size,0,none⟩) p q),_,{c.w with heap:=c.w.heap.push (.cells (Builtin.zeroCells z0.cells q) e)},?_,.inl rfl,ρ',k1,k2,.sl k3 k4 (by simp) F7 (.inl (by simp))⟩
   have t1:¬((q:Int)<0):=by omega
   have t2:¬((i.bytes:Int)*(q:Int) > 281474976710656):=by rw[Int.mul_comm];omega
   have t3:¬((p:Int)<0):=by omega
   have t4:¬((p:Int) > (q:Int)):=by omega
   by_cases hq0:q=0
   ·subst hq0
    have hp0:p=0:=by omega
    subst hp0
    have hze:(Builtin.zeroCells z0.cells 0)=#[]:=by apply Array.eq_empty_of_size_eq_zero;simp[cU]
    simp[execOp,ho,hkl,hkm,Instr.makeSlice,run_underlying ht,asInt,asIntOf,typeInfo,hi,IntKind.wrap_i64,sizeOf,newRow,hze]
    rw[show Array.range 0=#[]from by apply Array.eq_empty_of_size_eq_zero;simp]
    simp
   ·have hqs:¬(q*i.size=0):=Nat.mul_ne_zero hq0 (by omega)
    have hzr:(Array.range (q*i.size)).map (z0.cells[· % z0.cells.size]!)=Builtin.zeroCells z0.cells q:=by rw[←s2];rfl
    simp only[execOp,ho,hkl,hkm,Instr.makeSlice,Sem.run_bind,run_underlying ht,Result.andThen_ok,asInt,asIntOf,Sem.run_pure,typeInfo,run_program,hi,w1,w2]
    simp[t1,t2,t3,t4,sizeOf,typeInfo,zeroValue,hi,hz,newRow]
    rw[if_neg hqs,hzr]
  ·cases hs
 ·cases hs
end
end Go.Dm
/-
Part 13 of "Dm": slices and structs that are built; maps.
-/
namespace Go.Dm
section
variable {P:Program} {h h':aA} {c:Ctx} {env:Env} {a:Act} {o:Oper} {r:DV}
theorem Lg:∀(l:List Value) (cells:Array Value) (off k:Nat),off+k+l.length≤cells.size →
  (l.zipIdx k).foldl (fun cs (x:Value×Nat)=>cs.setIfInBounds (off+x.2) x.1) cells=spl cells (off+k) l
 | [],cells,off,k,_=>by simp[spl]
 | x::l,cells,off,k,cM=>by
  simp only[List.length_cons]at cM
  simp only[List.zipIdx_cons,List.foldl_cons]
  rw[Lg l _ off (k+1) (by simp;omega)]
  apply Array.ext_getElem?
  intro q
  rw[qK (by simp;omega),qK (by simp;omega)]
  simp only[List.length_cons]
  by_cases h1:q<off+k
  ·rw[if_pos (by omega),if_pos h1,Array.getElem?_setIfInBounds_ne (by omega)]
  ·by_cases h2:q=off+k
   ·subst h2
    rw[if_pos (by omega),if_neg (by omega),if_pos (by omega),Array.getElem?_setIfInBounds_self]
    rw[if_pos (by omega)]
    simp
   ·by_cases h3:q<off+k+(l.length+1)
    ·rw[if_neg (by omega),if_pos (by omega),if_neg h1,if_pos h3]
     rw[show q-(off+k)=(q-(off+(k+1)))+1 by omega]
     simp
    ·rw[if_neg (by omega),if_neg (by omega),if_neg h1,if_neg h3,Array.getElem?_setIfInBounds_ne (by omega)]
theorem Hb{v:Value}{cells:Array Value}{off:Nat}(cM:off+v.cells.size≤cells.size) :
  v.cells.zipIdx.foldl (fun cs (x:Value×Nat)=>cs.setIfInBounds (off+x.2) x.1) cells=spl cells off v.cells.toList:=by
 rw[←Array.foldl_toList,Array.toList_zipIdx]
 have:=Lg v.cells.toList cells off 0 (by simpa using cM)
 simpa using this
theorem Hh(place:Nat→Option (Nat×Nat)):∀(ps:List (Nat×Value)) (ds:List (Nat×Nat×DV)) (cells:Array Value) (cs cs':List DV),ps.length=ds.length →
  (∀(i:Nat) (p:Nat×Value) (d:Nat×Nat×DV),ps[i]?=some p→ds[i]?=some d→place p.1=some (d.1,d.2.1)∧VR c d.2.2 p.2) →
  eB c cells 0 cs→cells.size=cs.length→fT cs ds=some cs'→∃ jB,Instr.fill place cells ps=some jB∧eB c jB 0 cs'∧jB.size=cs'.length∧cs'.length=cs.length
 | [],ds,cells,cs,cs',hl,_,hc,eI,hf=>by
  cases ds with
  | nil=>simp only[fT]at hf;cases hf;exact⟨cells,rfl,hc,eI,rfl⟩
  | cons d ds=>simp at hl
 | p::ps,ds,cells,cs,cs',hl,hp,hc,eI,hf=>by
  cases ds with
  | nil=>simp at hl
  | cons d ds =>
   obtain⟨off,n,dv⟩:=d
   obtain⟨i,v⟩:=p
   simp only[fT]at hf
   split at hf
   ·rename_i bU
    obtain⟨dD,cM⟩:=bU
    obtain⟨Ny,hv⟩:=hp 0 (i,v) (off,n,dv) rfl rfl
    simp only at Ny hv
    obtain⟨s1,s2,s4,s3⟩:=nD dD hv
    have s2':v.cells.size=n:=by simpa using s2
    have hle':off+v.cells.toList.length≤cells.size:=by rw[s2];omega
    have l1:(cs.take off).length=off:=by rw[List.length_take];omega
    have hc':eB c (spl cells off v.cells.toList) 0 (cs.take off++aF n dv++cs.drop (off+n)):=by
     refine eB.append (eB.append ?_ ?_) ?_
     ·exact(hc.take off).other hle' (.inl (by rw[l1];omega))
     ·rw[l1,Nat.zero_add]
      exact eB.same hle' (by omega) s3
     ·rw[List.length_append,l1,s1]
      exact(hc.drop (off+n)).other hle' (.inr (by rw[s2];omega))
    have hlen':(cs.take off++aF n dv++cs.drop (off+n)).length=cs.length:=by simp only[List.length_append,List.length_take,List.length_drop,s1];omega
    obtain⟨jB,k1,k2,k3,k4⟩:=Hh place ps ds (spl cells off v.cells.toList) _ cs' (by simpa using hl) (fun j p' d' h1 h2=>hp (j+1) p' d' (by simpa using h1) (by simpa using h2)) hc' (by rw[pQ hle',hlen'];exact eI) hf
    refine⟨jB,?_,k2,k3,by rw[k4,hlen']⟩
    have Ob:(decide (v.cells.size≠n) || decide (off+v.cells.size > cells.size))=false:=by simp[s2'];omega
    simp only[Instr.fill,Ny]
    rw[if_neg (by rw[Ob];simp)]
    rw[←k1]
    congr 1
    exact Hb (by omega)
   ·cases hf
theorem P1{sz:Nat}{d:DV}{v:Value}(dD:aU sz d=true)(hv:VR c d v):jF c sz [d] v.cells.toList:=by
 obtain⟨s1,s2,s4,s3⟩:=nD dD hv
 refine⟨by rw[s2];simp,s4,fun i e he=>?_⟩
 have hi:i=0:=by
  have:=(List.getElem?_eq_some_iff.1 he).1
  simpa using this
 subst hi
 simp only[List.getElem?_cons_zero,Option.some.injEq]at he
 subst he
 refine⟨s1,fun j e he=>?_⟩
 have hj:=(List.getElem?_eq_some_iff.1 he).1
 have Dg:j<v.cells.toList.length:=by omega
 exact⟨v.cells.toList[j],by rw[Nat.zero_mul,Nat.zero_add];exact List.getElem?_eq_getElem Dg,(s3 j e _ he (List.getElem?_eq_getElem Dg)).2⟩
theorem Wq{xs:List DV}{d:DV}{i:Nat}(hi:i<xs.length):cN xs [d] i=xs.set i d:=by
 rw[List.set_eq_take_append_cons_drop,if_pos hi]
 simp[cN]
theorem Cq{sz:Nat}:∀(ps:List (Nat×Value)) (ds:List (Nat×DV)) (cells:Array Value) (xs xs':List DV),ps.length=ds.length →
  (∀(i:Nat) (p:Nat×Value) (d:Nat×DV),ps[i]?=some p→ds[i]?=some d→p.1=d.1∧VR c d.2 p.2) →
  gU c xs sz cells 0→cells.size=xs.length*sz→dF sz xs ds=some xs'→∃ jB,Instr.fill (fun i=>some (i*sz,sz)) cells ps=some jB∧gU c xs' sz jB 0∧jB.size=xs'.length*sz∧xs'.length=xs.length
 | [],ds,cells,xs,xs',hl,_,hc,eI,hf=>by
  cases ds with
  | nil=>simp only[dF]at hf;cases hf;exact⟨cells,rfl,hc,eI,rfl⟩
  | cons d ds=>simp at hl
 | p::ps,ds,cells,xs,xs',hl,hp,hc,eI,hf=>by
  cases ds with
  | nil=>simp at hl
  | cons d ds =>
   obtain⟨k,dv⟩:=d
   obtain⟨i,v⟩:=p
   simp only[dF]at hf
   split at hf
   ·rename_i bU
    obtain⟨dD,aY⟩:=bU
    obtain⟨Ny,hv⟩:=hp 0 (i,v) (k,dv) rfl rfl
    simp only at Ny hv
    subst Ny
    obtain⟨s1,s2,s4,s3⟩:=nD dD hv
    have s2':v.cells.size=sz:=by simpa using s2
    obtain⟨lW,nI⟩:=nO (m:=xs.length) hc (by rw[eI,Nat.zero_add]) (Nat.le_refl _) (P1 dD hv) (k:=i) (by simp only[List.length_cons,List.length_nil];omega)
    rw[Wq aY,Nat.zero_add]at nI
    rw[Nat.zero_add]at lW
    obtain⟨jB,k1,k2,k3,k4⟩:=Cq ps ds (spl cells (i*sz) v.cells.toList) _ xs' (by simpa using hl) (fun j p' d' h1 h2=>hp (j+1) p' d' (by simpa using h1) (by simpa using h2)) nI (by rw[pQ lW,List.length_set];exact eI) hf
    refine⟨jB,?_,k2,k3,by rw[k4,List.length_set]⟩
    have Ob:(decide (v.cells.size≠sz) || decide (i*sz+v.cells.size > cells.size))=false:=by simp[s2'];rw[Array.length_toList,s2']at lW;exact lW
    simp only[Instr.fill]
    rw[if_neg (by rw[Ob];simp)]
    rw[←k1]
    congr 1
    exact Hb (by rw[Array.length_toList]at lW;exact lW)
   ·cases hf
theorem Db(w:World)(t e:TypeId)(len:Nat)(parts:Array (Nat×Value))(cells:Array Value)(ie:TypeInfo)(z:Value)
  (hu:P.underlying t=some (.slice e)) (MK:P.info? e=some ie) (hz:ie.zero=some z) (hsmall:¬len*ie.size > 2 ^ 24) (uG:¬len*ie.size=0)
  (h:Instr.fill (fun i=>some (i*ie.size,ie.size)) ((Array.range (len*ie.size)).map (z.cells[· % z.cells.size]!)) parts.toList=some cells) :
  (Instr.buildSlice t len parts).run P w=.ok (.slice (some ⟨w.heap.size,0,none⟩) len len) (w.alloc (.cells cells e)):=by
 simp[Instr.buildSlice,run_underlying hu,sizeOf,typeInfo,zeroValue,MK,hz,hsmall,uG,h,newRow]
theorem Km{t e:TypeId}{sz bytes len:Nat}{z:DV}{parts:Array (Nat×Operand)}{ps:List (Nat×Opd)}(ho:o.op=.buildSlice t len parts)(ht:P.underlying t=some (.slice e))(he:dY P e=some (sz,bytes,z))
  (hp:parts.toList.mapM (fun(x:Nat×Operand)=>(opd x.2).map fun y=>(x.1,y))=some ps) (hsmall:len*sz≤16777216) (hE:cI c env a) {xs:List DV} (GI:dF sz (List.replicate len z) (ps.map fun p=>(p.1,p.2.eval env))=some xs) :
  ∃ w' cur,(execOp a.eval o).run P c.w=.ok (.value (.slice (some ⟨c.w.heap.size,0,none⟩) len len)) w'∧w'.heap=c.w.heap.push (.cells cur e (0,0))∧J2 c.w w'∧0<sz∧cur.size=xs.length*sz∧mF cur∧gU c xs sz cur 0:=by
 obtain⟨i,z0,hi,e1,e2,hz,yM,eI,dD⟩:=fA he
 subst e1;subst e2
 obtain⟨s1,s2,s3⟩:=dQ dD (eM yM c)
 have hl:=cJ _ _ _ hp
 have iT:=qL (c:=c) (n:=len) eI dD (eM yM c)
 have nI:=iT.toElems (cur:=Builtin.zeroCells z0.cells len) (base:=0) (fun j u hj=>by rw[Nat.zero_add];simpa using hj)
 obtain⟨jB,k1,k2,k3,k4⟩:=Cq (c:=c) (sz:=i.size) (parts.map fun(x:Nat×Operand)=>(x.1,a.eval x.2)).toList (ps.map fun p=>(p.1,p.2.eval env)) (Builtin.zeroCells z0.cells len) _ xs (by simp[hl])
  (fun j p d h1 h2=>by
   simp only[Array.toList_map,List.getElem?_map,Option.map_eq_some_iff]at h1 h2
   obtain⟨p0,p1,rfl⟩:=h1
   obtain⟨d0,d1,rfl⟩:=h2
   obtain⟨q1,q2⟩:=List.getElem?_eq_some_iff.1 p1
   obtain⟨q3,q4⟩:=List.getElem?_eq_some_iff.1 d1
   have:=eW _ _ _ hp j q1 q3
   rw[q2,q4]at this
   simp only[Option.map_eq_some_iff]at this
   obtain⟨y,hy,rfl⟩:=this
   exact⟨rfl,bI hy hE⟩) nI (by rw[cU,s2];simp) GI
 have cB:xs.length=len:=by rw[k4];simp
 refine⟨{c.w with heap:=c.w.heap.push (.cells jB e)},jB,?_,rfl,⟨rfl,rfl,rfl,Nat.le_refl _⟩,eI,k3,qN (m:=len) k2 eI (by rw[k3,cB]) cB,k2⟩
 have hzr:(Array.range (len*i.size)).map (z0.cells[· % z0.cells.size]!)=Builtin.zeroCells z0.cells len:=by rw[←s2];rfl
 have T3:¬(len*i.size > 2 ^ 24):=by omega
 by_cases h0:len*i.size=0
 ·have hze:Builtin.zeroCells z0.cells len=#[]:=by apply Array.eq_empty_of_size_eq_zero;rw[cU,s2];exact h0
  rw[hze]at k1
  simp only[execOp,ho,Instr.buildSlice,Sem.run_bind,run_underlying ht,Result.andThen_ok,sizeOf,typeInfo,run_program,hi,Sem.run_pure,h0,if_true]
  rw[show Array.range 0=#[]from by apply Array.eq_empty_of_size_eq_zero;simp]
  simp only[Array.map_empty]
  rw[k1]
  simp[newRow]
 ·have:=Db (P:=P) c.w t e len (parts.map fun(x:Nat×Operand)=>(x.1,a.eval x.2)) jB i z0 ht hi hz T3 h0 (by rw[hzr];exact k1)
  simp[execOp,ho,this]
theorem Ms{t e:TypeId}{sz bytes len:Nat}{z:DV}{parts:Array (Nat×Operand)}{ps:List (Nat×Opd)}(ho:o.op=.buildSlice t len parts)(ht:P.underlying t=some (.slice e))(he:dY P e=some (sz,bytes,z))
  (hp:parts.toList.mapM (fun(x:Nat×Operand)=>(opd x.2).map fun y=>(x.1,y))=some ps) (hsmall:len*sz≤16777216) (hR:Rel h c) (hE:cI c env a) (hs:aC h env (.buildSlice e sz z len ps)=some (r,h')):fK P h c o a h' r:=by
 simp only[aC]at hs
 split at hs
 ·rename_i xs GI
  simp only[Option.some.injEq,Prod.mk.injEq]at hs
  obtain⟨rfl,rfl⟩:=hs
  obtain⟨w',cur,r1,r2,r3,eI,r4,r5,r6⟩:=Km (P:=P) (o:=o) (c:=c) (env:=env) (a:=a) ho ht he hp hsmall hE GI
  have cB:xs.length=len:=by
   have key:∀(ps:List (Nat×DV)) (xs ys:List DV),dF sz xs ps=some ys→ys.length=xs.length:=by
    intro ps
    induction ps with
    | nil=>intro xs ys h;simp only[dF]at h;cases h;rfl
    | cons p ps ih =>
     intro xs ys h
     obtain⟨i,v⟩:=p
     simp only[dF]at h
     split at h
     ·rw[ih _ _ h,List.length_set]
     ·cases h
   rw[key _ _ _ GI];simp
  obtain⟨ρ',j1,j2,j3,j4⟩:=Dt hR w' (m:=len) (cap:=some len) (xs:=xs) r2 eI (by rw[r4,cB]) (by omega) (fun k hk=>by cases hk;exact⟨rfl,cB⟩) r5 r6 r3
  exact⟨.value (.slice (some ⟨c.w.heap.size,0,none⟩) len len),_,w',r1,.inl rfl,ρ',j1,j2,.sl j3 j4 (by simp) (Nat.le_refl _) (.inl (by simp))⟩
 ·cases hs
theorem Cx{place:Nat→Option (Nat×Nat)}{parts:Array (Nat×Operand)}{ps:List (Nat×Nat×Opd)}{z0:Value}{zs cs:List DV}(yM:Br z0=some (.agg zs))(hE:cI c env a)
  (hl:parts.size=ps.length) (hp:∀(j:Nat) (p:Nat×Operand) (d:Nat×Nat×Opd),parts.toList[j]?=some p→ps[j]?=some d→place p.1=some (d.1,d.2.1)∧opd p.2=some d.2.2)
  (hf:fT zs (ps.map fun p=>(p.1,p.2.1,p.2.2.eval env))=some cs):∃ cells,Instr.fill place z0.cells (parts.map fun(x:Nat×Operand)=>(x.1,a.eval x.2)).toList=some cells∧VR c (.agg cs) (.agg cells):=by
 have hvz:=eM yM c
 obtain⟨vs,rfl,h1,h2,h3⟩:=hvz.agg_inv
 have hcells:eB c (Value.cells (.agg vs.toArray)) 0 zs:=by
  intro j d hd
  obtain⟨hj,rfl⟩:=List.getElem?_eq_some_iff.1 hd
  have sS:j<vs.length:=by omega
  exact⟨vs[j],by simp[Value.cells,sS],h2 j sS,h3 j hj sS⟩
 obtain⟨jB,k1,k2,k3,k4⟩:=Hh (c:=c) place (parts.map fun(x:Nat×Operand)=>(x.1,a.eval x.2)).toList (ps.map fun p=>(p.1,p.2.1,p.2.2.eval env)) (Value.cells (.agg vs.toArray)) zs cs (by simp[hl])
  (fun j p d g1 g2=>by
   simp only[Array.toList_map,List.getElem?_map,Option.map_eq_some_iff]at g1 g2
   obtain⟨p0,p1,rfl⟩:=g1
   obtain⟨d0,d1,rfl⟩:=g2
   obtain⟨q1,q2⟩:=hp j p0 d0 p1 d1
   exact⟨q1,bI q2 hE⟩) hcells (by simp[Value.cells,h1]) hf
 refine⟨jB,k1,?_⟩
 have key:VR c (.agg cs) (.agg jB.toList.toArray):=.agg (by simp[k3]) (fun j hj=>?_) (fun j KK Dg=>?_)
 ·simpa using key
 ·have sS:j<cs.length:=by rw[←k3];simpa using hj
  obtain⟨v,a1,a2,a3⟩:=k2 j _ (List.getElem?_eq_getElem sS)
  rw[Nat.zero_add]at a1
  obtain⟨b1,b2⟩:=Array.getElem?_eq_some_iff.1 a1
  simp only[Array.getElem_toList]
  rw[b2];exact a2
 ·obtain⟨v,a1,a2,a3⟩:=k2 j _ (List.getElem?_eq_getElem KK)
  rw[Nat.zero_add]at a1
  obtain⟨b1,b2⟩:=Array.getElem?_eq_some_iff.1 a1
  simp only[Array.getElem_toList]
  rw[b2];exact a3
theorem Iy{t:TypeId}{sz bytes:Nat}{zs:List DV}{fs:Array Field}{parts:Array (Nat×Operand)}{ps:List (Nat×Nat×Opd)}(ho:o.op=.build t parts)(ht:P.underlying t=some (.struct fs))(he:dY P t=some (sz,bytes,.agg zs))
  (hp:parts.toList.mapM (fun(x:Nat×Operand)=>match fs[x.1]?,opd x.2 with
    | some f,some y=>(match P.info? f.type with|some fi=>some (f.offset,fi.size,y)|none=>none)
    | _,_=>none)=some ps) (gO:fs.toList.all (fun f=>(P.info? f.type).isSome)=true) (_hR:Rel h c) (hE:cI c env a) (hs:aC h env (.build zs ps)=some (r,h')):bB P h c o a h' r:=by
 obtain⟨i,z0,hi,e1,e2,hz,yM,eI,dD⟩:=fA he
 simp only[aC]at hs
 split at hs
 ·rename_i cs Dy
  simp only[Option.some.injEq,Prod.mk.injEq]at hs
  obtain⟨rfl,rfl⟩:=hs
  have hl:=cJ _ _ _ hp
  obtain⟨places,Ny⟩:∃ places,fs.toList.mapM (fun f=>(P.info? f.type).map fun i=>(f.offset,i.size))=some places:=by
   have:∀l:List Field,l.all (fun f=>(P.info? f.type).isSome)=true→∃ places,l.mapM (fun f=>(P.info? f.type).map fun i=>(f.offset,i.size))=some places:=by
    intro l
    induction l with
    | nil=>intro _;exact⟨[],rfl⟩
    | cons f l ih =>
     intro hh
     simp only[List.all_cons,Bool.and_eq_true]at hh
     obtain⟨pl,Ny⟩:=ih hh.2
     obtain⟨fi,Zb⟩:=Option.isSome_iff_exists.1 hh.1
     exact⟨(f.offset,fi.size)::pl,by simp[List.mapM_cons,Zb,Ny]⟩
   exact this _ gO
  have hpll:=cJ _ _ _ Ny
  obtain⟨cells,k1,k2⟩:=Cx (c:=c) (a:=a) (env:=env) (place:=(places.toArray[·]?)) (parts:=parts) (ps:=ps) yM hE (by simpa using hl.symm) (fun j p d g1 g2=>by
   obtain⟨q1,q2⟩:=List.getElem?_eq_some_iff.1 g1
   obtain⟨q3,q4⟩:=List.getElem?_eq_some_iff.1 g2
   have:=eW _ _ _ hp j q1 q3
   rw[q2,q4]at this
   split at this
   ·rename_i f y hf hy
    split at this
    ·rename_i fi Zb
     cases this
     obtain⟨w1,w2⟩:=Array.getElem?_eq_some_iff.1 hf
     have w3:p.1<fs.toList.length:=by simpa using w1
     have:=eW _ _ _ Ny p.1 w3 (by omega)
     have w4:fs.toList[p.1]=f:=by simpa using w2
     rw[w4,Zb]at this
     simp only[Option.map_some,Option.some.injEq]at this
     refine⟨?_,hy⟩
     simp only[List.getElem?_toArray]
     rw[List.getElem?_eq_getElem (by omega),←this]
    ·cases this
   ·cases this) Dy
  have hb:P.built t (parts.map fun(x:Nat×Operand)=>(x.1,a.eval x.2)).toList=some cells:=by
   simp only[Program.built,hi,ht,hz,Ny]
   exact k1
  exact bB.value (.agg cells) (by simp[execOp,ho,run_build c.w t _ cells hb]) k2
 ·cases hs
theorem Mt{t e:TypeId}{n sz bytes esz ebytes:Nat}{zs:List DV}{ez:DV}{parts:Array (Nat×Operand)}{ps:List (Nat×Nat×Opd)}(ho:o.op=.build t parts)(ht:P.underlying t=some (.array n e))(he:dY P t=some (sz,bytes,.agg zs))(Oh:dY P e=some (esz,ebytes,ez))
  (hp:parts.toList.mapM (fun(x:Nat×Operand)=>(opd x.2).map fun y=>(x.1*esz,esz,y))=some ps) (_hR:Rel h c) (hE:cI c env a) (hs:aC h env (.build zs ps)=some (r,h')):bB P h c o a h' r:=by
 obtain⟨i,z0,hi,e1,e2,hz,yM,eI,dD⟩:=fA he
 obtain⟨ie,ze,MK,g1,g2,hze,_,_,_⟩:=fA Oh
 simp only[aC]at hs
 split at hs
 ·rename_i cs Dy
  simp only[Option.some.injEq,Prod.mk.injEq]at hs
  obtain⟨rfl,rfl⟩:=hs
  have hl:=cJ _ _ _ hp
  obtain⟨cells,k1,k2⟩:=Cx (c:=c) (a:=a) (env:=env) (place:=fun i=>some (i*esz,esz)) (parts:=parts) (ps:=ps) yM hE (by simpa using hl.symm) (fun j p d g1 g2=>by
   obtain⟨q1,q2⟩:=List.getElem?_eq_some_iff.1 g1
   obtain⟨q3,q4⟩:=List.getElem?_eq_some_iff.1 g2
   have:=eW _ _ _ hp j q1 q3
   rw[q2,q4]at this
   simp only[Option.map_eq_some_iff]at this
   obtain⟨y,hy,rfl⟩:=this
   exact⟨rfl,hy⟩) Dy
  have hb:P.built t (parts.map fun(x:Nat×Operand)=>(x.1,a.eval x.2)).toList=some cells:=by
   simp only[Program.built,hi,ht,hz,MK,g1]
   exact k1
  exact bB.value (.agg cells) (by simp[execOp,ho,run_build c.w t _ cells hb]) k2
 ·cases hs
end
end Go.Dm
/-
Part 14 of "Dm": maps.
-/
namespace Go.Dm
section
variable {P:Program} {h h':aA} {c:Ctx} {env:Env} {a:Act} {o:Oper} {r:DV}
theorem rN(em:Bool):∀(m d:Nat) (t:TypeId) (ks:List Nat),flatK P m t=some ks→∀(w:World) (cs:List DV) (x:Value),pY P c t cs x→cs.length=ks.length→(Instr.checkKey em (d+m) t x).run P w=.ok () w
 | 0,_,_,_,hk=>by simp[flatK]at hk
 | m+1,d,t,ks,hk=>by
  intro w cs x hx cB
  unfold flatK at hk
  rw[show d+(m+1)=(d+m)+1 from rfl]
  split at hk
  all_goals first|cases hk|skip
  ·rename_i i hu hi
   simp[Instr.checkKey,run_underlying hu]
  ·rename_i q i hu hi
   simp[Instr.checkKey,run_underlying hu]
  ·rename_i i hu hi
   simp[Instr.checkKey,run_underlying hu]
  ·rename_i fs i hu hi
   split at hk
   ·rename_i bU
    split at hk
    ·rename_i kk sR
     split at hk
     ·cases hk
      simp only[pY,dX,hu,if_true]at hx
      obtain⟨vs,rfl,hv⟩:=hx
      rw[Instr.checkKey]
      simp only[Sem.run_bind,run_underlying hu,Result.andThen_ok]
      rw[←Array.forIn_toList]
      have key:∀(L:List Field) (o:Nat) (k:List Nat),xZ (flatK P m) L o=some k→o+k.length≤cs.length →
        (forIn L PUnit.unit fun f (_ : PUnit) => (if f.name ≠ "_" then do Instr.checkKey em (d + m) f.type (← part f.type vs.toArray f.offset); pure (ForInStep.yield PUnit.unit) else pure (ForInStep.yield PUnit.unit) : Sem (ForInStep PUnit))).run P w = .ok PUnit.unit w := by
       intro L
       induction L with
       | nil=>intro o k _ _;simp
       | cons f L ih =>
        intro o k hg cM
        simp only[xZ]at hg
        split at hg
        ·rename_i hc
         split at hg
         ·rename_i k1 Z1
          split at hg
          ·rename_i k2 wN
           cases hg
           rw[List.length_append]at cM
           obtain⟨y,p1,p2⟩:=pG (P:=P) Z1 hv (off:=o) (by omega) w
           have p3:=rN em m d f.type k1 Z1 w _ y p2 (by simp;omega)
           simp only[List.forIn_cons,Sem.run_bind,hc.1,ne_eq,not_false_eq_true,if_true,hc.2,p1,p3,Result.andThen_ok,Sem.run_pure]
           exact ih (o+k1.length) k2 wN (by omega)
          ·cases hg
         ·cases hg
        ·cases hg
      have:=key fs.toList 0 _ sR (by omega)
      rw[this]
      rfl
     ·cases hk
    ·cases hk
   ·cases hk
  ·rename_i n e i hu hi
   split at hk
   ·split at hk
    ·rename_i kk sR
     split at hk
     ·cases hk
      simp only[pY,dX,hu,if_true]at hx
      obtain⟨vs,rfl,hv⟩:=hx
      obtain⟨ie,MK,hse⟩:=xY sR
      have KC:∀w,(sizeOf e).run P w=.ok kk.length w:=fun w=>by simp[sizeOf,typeInfo,MK,hse]
      rw[Instr.checkKey]
      simp only[Sem.run_bind,run_underlying hu,Result.andThen_ok]
      simp only[Std.Legacy.Range.forIn_eq_forIn_range',Std.Legacy.Range.size,Nat.sub_zero,Nat.add_one_sub_one,Nat.div_one]
      have key:∀(q s:Nat),(s+q)*kk.length≤cs.length→(forIn (List.range' s q) PUnit.unit fun i (_:PUnit)=>(do Instr.checkKey em (d+m) e (←part e vs.toArray (i*(←sizeOf e)));pure (ForInStep.yield PUnit.unit):Sem (ForInStep PUnit))).run P w=.ok PUnit.unit w:=by
       intro q
       induction q with
       | zero=>intro s _;simp
       | succ q ih =>
        intro s cM
        have Oc:s*kk.length+kk.length≤cs.length:=by
         have:(s+1)*kk.length≤(s+(q+1))*kk.length:=Nat.mul_le_mul_right _ (by omega)
         rw[Nat.add_mul]at this;omega
        obtain⟨y,p1,p2⟩:=pG (P:=P) sR hv (off:=s*kk.length) Oc w
        have p3:=rN em m d e kk sR w _ y p2 (by simp;omega)
        simp only[List.range'_succ,List.forIn_cons,Sem.run_bind,KC,p1,p3,Result.andThen_ok,Sem.run_pure]
        exact ih (s+1) (by rw[show s+1+q=s+(q+1) by omega];exact cM)
      have:=key n 0 (by rw[Nat.zero_add,cB];simp[List.length_flatten])
      rw[this]
      rfl
     ·cases hk
    ·cases hk
   ·cases hk
theorem vS{t : TypeId}{q : EqT}(hq : eqT P t = some q){d : DV}{x : Value}(hv : VR c d x)(he : (fO q d d).isSome = true)(em : Bool)(w : World) : (Instr.checkKey em 10000 t x).run P w = .ok () w := by
  obtain⟨b, hb⟩ := Option.isSome_iff_exists.1 he
  have prim : ∀ desc, P.underlying t = some desc → desc = .bool ∨ (∃ k, desc = .int k) ∨ desc = .string → (Instr.checkKey em 10000 t x).run P w = .ok () w := by
    intro desc hu hd
    rw[show(10000 : Nat) = 9999 + 1 from rfl, Instr.checkKey]
    rcases hd with rfl | ⟨k, rfl⟩ | rfl <;> simp[run_underlying hu]
  unfold eqT at hq
  split at hq
  · rename_i hu; exact prim _ hu (.inl rfl)
  · rename_i hu; exact prim _ hu (.inr (.inl ⟨_, rfl⟩))
  · rename_i hu; exact prim _ hu (.inr (.inr rfl))
  all_goals first
    | (cases hq; done)
    | (rename_i hu
       simp only[Option.map_eq_some_iff]at hq
       obtain⟨ks, hks, rfl⟩ := hq
       cases hv <;> simp only[fO]at hb <;> first
         | (cases hb; done)
         | (rename_i ds vs hl h1 xF
            have cB := (lO _ _ _ _ hb).1
            exact rN (P := P) em 20 9980 t _ hks w _ _ (by simp only[pY, dX, hu, if_true]; exact⟨vs, rfl, by assumption, by assumption⟩) cB))
def rB(c:Ctx)(es:List (DV×DV))(ms:List MapEntry):Prop:=es.length=ms.length∧∀(i:Nat) (e:DV×DV) (m:MapEntry),es[i]?=some e→ms[i]?=some m→VR c e.1 m.key∧VR c e.2 m.val
theorem Hm{e:DV×DV}{es:List (DV×DV)}{m:MapEntry}{ms:List MapEntry}(hE:rB c (e::es) (m::ms)):rB c es ms :=
 ⟨by simpa using hE.1,fun i e' m' h1 h2=>hE.2 (i+1) e' m' (by simpa using h1) (by simpa using h2)⟩
def Vk(c:Ctx)(es:List (DV×DV))(i:Nat):Option (Nat×DV)→Option (Nat×Value)→Prop
 | none,none=>True
 | some (j,v),some (j',u)=>j=j'∧VR c v u∧i≤j∧j<i+es.length
 | _,_=>False
theorem sJ{t:TypeId}{q:EqT}(hq:eqT P t=some q){d:DV}{x:Value}(hv:VR c d x)(w:World):∀(es:List (DV×DV)) (ms:List MapEntry) (i:Nat) (res:Option (Nat×DV)),rB c es ms→fG q d es i=some res →
  ∃ iZ,(Instr.findAsking t x ms i).run P w=.ok iZ w∧Vk c es i res iZ
 | [],ms,i,res,hE,hf=>by
  cases ms with
  | nil=>simp only[fG]at hf;cases hf;exact⟨none,by simp[Instr.findAsking],trivial⟩
  | cons m ms=>simp[rB]at hE
 | e::es,ms,i,res,hE,hf=>by
  cases ms with
  | nil=>simp[rB]at hE
  | cons m ms =>
   obtain⟨k',v⟩:=e
   have h0:=hE.2 0 (k',v) m rfl rfl
   simp only[fG]at hf
   split at hf
   ·rename_i hb
    cases hf
    have:=yC (P:=P) hq hb hv h0.1 w
    exact⟨some (i,m.val),by simp[Instr.findAsking,this],rfl,h0.2,Nat.le_refl _,by simp⟩
   ·rename_i hb
    have:=yC (P:=P) hq hb hv h0.1 w
    obtain⟨iZ,g1,g2⟩:=sJ hq hv w es ms (i+1) res (Hm hE) hf
    refine⟨iZ,by simp[Instr.findAsking,this,g1],?_⟩
    cases res<;>cases iZ<;>simp only[Vk]at g2 ⊢
    obtain⟨a1,a2,a3,a4⟩:=g2
    exact⟨a1,a2,by omega,by simp only[List.length_cons];omega⟩
   ·cases hf
theorem nN{desc:TypeDesc}{k:Nat}(hd:(desc=.bool∧k=0)∨((∃ kk,desc=.int kk)∧k=1)∨(desc=.string∧k=2)){d:DV}{x:Value}(hv:VR c d x):∀(es:List (DV×DV)) (ms:List MapEntry) (i:Nat) (res:Option (Nat×DV)),rB c es ms→fG (.prim k) d es i=some res →
  ∃ iZ,Instr.findNow desc x ms i=some iZ∧Vk c es i res iZ
 | [],ms,i,res,hE,hf=>by
  cases ms with
  | nil=>simp only[fG]at hf;cases hf;exact⟨none,by simp[Instr.findNow],trivial⟩
  | cons m ms=>simp[rB]at hE
 | e::es,ms,i,res,hE,hf=>by
  cases ms with
  | nil=>simp[rB]at hE
  | cons m ms =>
   obtain⟨k',v⟩:=e
   have h0:=hE.2 0 (k',v) m rfl rfl
   have same:∀b,fO (.prim k) d k'=some b→Instr.sameNow desc x m.key=some b:=by
    intro b hb
    have h1:=h0.1
    simp only at h1
    generalize m.key=mk at h1
    rcases hd with⟨rfl,rfl⟩|⟨⟨kk,rfl⟩,rfl⟩|⟨rfl,rfl⟩
    ·cases hv<;>cases h1<;>simp[fO,fX]at hb
     subst hb;simp[Instr.sameNow]
    ·cases hv<;>cases h1<;>simp[fO,fX]at hb
     obtain⟨rfl,rfl⟩:=hb;simp[Instr.sameNow]
    ·cases hv<;>cases h1<;>simp[fO,fX]at hb
     subst hb
     rename_i s1 s2
     have hq:((⟨s1.toArray⟩:ByteArray) == ⟨s2.toArray⟩)=(s1 == s2):=by rw[beq_toListBytes,At,At]
     simp[Instr.sameNow,hq]
   simp only[fG]at hf
   split at hf
   ·rename_i hb
    cases hf
    exact⟨some (i,m.val),by simp[Instr.findNow,same _ hb],rfl,h0.2,Nat.le_refl _,by simp⟩
   ·rename_i hb
    obtain⟨iZ,g1,g2⟩:=nN hd hv es ms (i+1) res (Hm hE) hf
    refine⟨iZ,by simp[Instr.findNow,same _ hb,g1],?_⟩
    cases res<;>cases iZ<;>simp only[Vk]at g2 ⊢
    obtain⟨a1,a2,a3,a4⟩:=g2
    exact⟨a1,a2,by omega,by simp only[List.length_cons];omega⟩
   ·cases hf
theorem iX{t : TypeId}{q : EqT}(hq : eqT P t = some q){d : DV}{x : Value}(hv : VR c d x)(w : World){es : List (DV × DV)}{ms : List MapEntry}{res : Option (Nat × DV)}(hE : rB c es ms)(hf : fG q d es 0 = some res) :
    ∃ iZ, (Instr.findKey t x ms).run P w = .ok iZ w ∧ Vk c es 0 res iZ := by
  have hq0 := hq
  unfold eqT at hq
  split at hq
  · rename_i hu; cases hq
    obtain⟨iZ, g1, g2⟩ := nN (.inl ⟨rfl, rfl⟩) hv es ms 0 res hE hf
    exact⟨iZ, by simp[Instr.findKey, run_underlying hu, g1], g2⟩
  · rename_i kk hu; cases hq
    obtain⟨iZ, g1, g2⟩ := nN (desc := .int kk) (.inr (.inl ⟨⟨_, rfl⟩, rfl⟩)) hv es ms 0 res hE hf
    exact⟨iZ, by simp[Instr.findKey, run_underlying hu, g1], g2⟩
  · rename_i hu; cases hq
    obtain⟨iZ, g1, g2⟩ := nN (.inr (.inr ⟨rfl, rfl⟩)) hv es ms 0 res hE hf
    exact⟨iZ, by simp[Instr.findKey, run_underlying hu, g1], g2⟩
  all_goals first
    | (cases hq; done)
    | (rename_i hu
       obtain⟨iZ, g1, g2⟩ := sJ (P := P) hq0 hv w es ms 0 res hE hf
       refine⟨iZ, ?_, g2⟩
       rw[← g1]
       cases ms with
       | nil => simp[Instr.findKey, run_underlying hu, Instr.findNow, Instr.findAsking]
       | cons m ms => simp[Instr.findKey, run_underlying hu, Instr.findNow, Instr.sameNow])
theorem tO{q:EqT}{d:DV}:∀(es:List (DV×DV)) (n:Nat),sH q d es=some n→n=(es.filter fun e=>fO q d e.1 == some true).length∧∀e,e∈es→(fO q d e.1).isSome=true
 | [],n,hh=>by cases hh;exact⟨rfl,fun e he=>by cases he⟩
 | (k',v)::r,n,hh=>by
  simp only[sH]at hh
  split at hh
  ·rename_i m h1 h2
   cases hh
   obtain⟨i1,i2⟩:=tO r m h2
   refine⟨by simp[h1,←i1],fun e he=>?_⟩
   rcases List.mem_cons.1 he with rfl|he
   ·rw[h1];rfl
   ·exact i2 e he
  ·rename_i m h1 h2
   cases hh
   obtain⟨i1,i2⟩:=tO r n h2
   refine⟨by simp[h1,←i1],fun e he=>?_⟩
   rcases List.mem_cons.1 he with rfl|he
   ·rw[h1];rfl
   ·exact i2 e he
  ·cases hh
theorem vJ{q:EqT}{d:DV}:∀(es:List (DV×DV)) (i:Nat),(∀e,e∈es→(fO q d e.1).isSome=true)→∃ res,fG q d es i=some res∧(res=none→∀e,e∈es→fO q d e.1=some false)
 | [],i,_=>⟨none,rfl,fun _ e he=>by cases he⟩
 | (k',v)::r,i,hh=>by
  obtain⟨b,hb⟩:=Option.isSome_iff_exists.1 (hh (k',v) (List.mem_cons_self ..))
  obtain⟨res,h1,h2⟩:=vJ r (i+1) (fun e he=>hh e (List.mem_cons_of_mem _ he))
  cases b with
  | true=>exact⟨some (i,v),by simp only[fG];rw[hb],fun h=>by cases h⟩
  | false =>
   refine⟨res,by simp only[fG];rw[hb];exact h1,fun h e he=>?_⟩
   rcases List.mem_cons.1 he with rfl|he
   ·exact hb
   ·exact h2 h e he
theorem Ac{q:EqT}{d:DV}:∀(es:List (DV×DV)) (i j:Nat) (v:DV),fG q d es i=some (some (j,v))→∃ idx e,j=i+idx∧es[idx]?=some e∧e.2=v∧fO q d e.1=some true
 | [],i,j,v,hf=>by simp[fG]at hf
 | e::es,i,j,v,hf=>by
  obtain⟨k',v'⟩:=e
  simp only[fG]at hf
  split at hf
  ·rename_i hb
   cases hf
   exact⟨0,_,rfl,rfl,rfl,hb⟩
  ·obtain⟨idx,e,h1,h2,h3,h4⟩:=Ac es (i+1) j v hf
   exact⟨idx+1,e,by omega,by simpa using h2,h3,h4⟩
  ·cases hf
theorem mW{q:EqT}{d:DV}{es es':List (DV×DV)}(hp:es.Perm es'){res:Option (Nat×DV)}(hf:lY q d es=some res) :
  match res with
  | none=>fG q d es' 0=some none
  | some (i,v)=>∃ (j:Nat) (e:DV×DV),fG q d es' 0=some (some (j,v))∧es[i]?=some e∧es'[j]?=some e:=by
 unfold lY at hf
 split at hf
 ·rename_i n hn
  split at hf
  ·rename_i cM
   obtain⟨f1,f2⟩:=tO es n hn
   have GS:(es.filter fun e=>fO q d e.1 == some true).length≤1:=by omega
   have hpf:=hp.filter (fun e=>fO q d e.1 == some true)
   obtain⟨iZ,g1,g2⟩:=vJ es' 0 (fun e he=>f2 e (hp.mem_iff.2 he))
   cases res with
   | none =>
    obtain⟨r0,k1,k2⟩:=vJ es 0 f2
    rw[hf]at k1
    cases k1
    have yO:=k2 rfl
    cases iZ with
    | none=>exact g1
    | some p =>
     obtain⟨j,v⟩:=p
     obtain⟨idx,e,_,q2,_,q4⟩:=Ac es' 0 j v g1
     have:=yO e (hp.mem_iff.2 (List.mem_of_getElem? q2))
     rw[this]at q4;cases q4
   | some p =>
    obtain⟨i,v⟩:=p
    obtain⟨idx,e,q1,q2,q3,q4⟩:=Ac es 0 i v hf
    rw[Nat.zero_add]at q1
    subst q1
    cases iZ with
    | none =>
     have:=g2 rfl e (hp.mem_iff.1 (List.mem_of_getElem? q2))
     rw[this]at q4;cases q4
    | some p' =>
     obtain⟨j,v'⟩:=p'
     obtain⟨idx',e',r1,r2,r3,r4⟩:=Ac es' 0 j v' g1
     rw[Nat.zero_add]at r1
     subst r1
     have m1:e∈es.filter fun e=>fO q d e.1 == some true:=List.mem_filter.2 ⟨List.mem_of_getElem? q2,by simp[q4]⟩
     have m2:e'∈es.filter fun e=>fO q d e.1 == some true:=List.mem_filter.2 ⟨hp.mem_iff.2 (List.mem_of_getElem? r2),by simp[r4]⟩
     have Oh:e=e':=by
      generalize es.filter (fun e=>fO q d e.1 == some true)=F at m1 m2 GS
      match F,GS with
      | [],_=>cases m1
      | [x],_=>rw[List.mem_singleton.1 m1,List.mem_singleton.1 m2]
      | x::y::r,h=>simp at h
     subst Oh
     exact⟨j,e,by rw[←q3,r3];exact g1,q2,r2⟩
  ·cases hf
 ·cases hf
theorem mQ{α:Type}:∀(l:List α) (i:Nat) (e:α),l[i]?=some e→l.Perm (e::l.eraseIdx i)
 | [],i,e,h=>by simp at h
 | a::l,0,e,h=>by simp at h;subst h;exact .refl _
 | a::l,i+1,e,h=>by
  have:=mQ l i e (by simpa using h)
  exact(List.Perm.cons a this).trans (.swap _ _ _)
theorem Fq{α:Type}:∀(l:List α) (i:Nat) (e:α),i<l.length→(l.set i e).Perm (e::l.eraseIdx i)
 | [],i,e,h=>by simp at h
 | a::l,0,e,_=>.refl _
 | a::l,i+1,e,h=>by
  have:=Fq l i e (by simpa using h)
  exact(List.Perm.cons a this).trans (.swap _ _ _)
theorem Fs{α:Type}{l l':List α}(hp:l.Perm l'){i j:Nat}{e:α}(h1:l[i]?=some e)(h2:l'[j]?=some e):(l.eraseIdx i).Perm (l'.eraseIdx j) :=
 List.Perm.cons_inv ((mQ l i e h1).symm.trans (hp.trans (mQ l' j e h2)))
theorem Ni{α:Type}{l l':List α}(hp:l.Perm l'){i j:Nat}{e:α}(h1:l[i]?=some e)(h2:l'[j]?=some e)(x:α):(l.set i x).Perm (l'.set j x) :=
 (Fq l i x (List.getElem?_eq_some_iff.1 h1).1).trans ((List.Perm.cons x (Fs hp h1 h2)).trans (Fq l' j x (List.getElem?_eq_some_iff.1 h2).1).symm)
theorem Rel.mapo{h:aA}{c:Ctx}(hR:Rel h c){id:Nat}{es:List (DV×DV)}(hg:h.get id=some (.mp es)){b base:Nat}(hρ:c.ρ id=some (b,base)) :
  ∃ es' entries clock,es.Perm es'∧c.w.heap[b]?=some (.map entries clock)∧rB c es' entries.toList∧Aq entries clock:=by
 obtain⟨es',hp,b',entries,clock,h1,h2,h3,h4,h5⟩:=hR.obj id _ hg
 rw[hρ]at h1;cases h1
 refine⟨es',entries,clock,hp,h2,⟨by simpa using h3,fun i e m he hm=>?_⟩,h5⟩
 obtain⟨a1,rfl⟩:=List.getElem?_eq_some_iff.1 he
 rw[Array.getElem?_toList]at hm
 obtain⟨a2,rfl⟩:=Array.getElem?_eq_some_iff.1 hm
 exact h4 i a1 a2
theorem Cf{t key e:TypeId}{i:TypeInfo}{z0:Value}(hu:P.underlying t=some (.map key e))(hi:P.info? e=some i)(hz:i.zero=some z0){entries:Array MapEntry}{x idx:Value}{w:World}{ok:Bool}
  (jQ:(x=.map none∧entries=#[])∨∃ b clock,x=.map (some b)∧w.heap[b]?=some (.map entries clock)) (EQ:(Instr.checkKey entries.isEmpty 10000 key idx).run P w=.ok () w) {res:Option (Nat×Value)} (hfk:(Instr.findKey key idx entries.toList).run P w=.ok res w) :
  (Instr.lookup t x idx ok).run P w=.ok (match res with|some (_,v)=>if ok then .tuple #[v,.bool true]else v|none=>if ok then .tuple #[z0,.bool false]else z0) w:=by
 rcases jQ with⟨rfl,rfl⟩|⟨b,clock,rfl,hb⟩
 ·cases res with
  | none=>cases ok<;>simp_all[Instr.lookup,run_underlying hu,zeroValue,typeInfo]
  | some p=>obtain⟨j,v⟩:=p;cases ok<;>simp_all[Instr.lookup,run_underlying hu]
 ·have hg:(getObj b).run P w=.ok (.map entries clock) w:=by simp[getObj,Sem.run,hb]
  cases res with
  | none=>cases ok<;>simp[Instr.lookup,run_underlying hu,hg,EQ,hfk,zeroValue,typeInfo,hi,hz]
  | some p=>obtain⟨j,v⟩:=p;cases ok<;>simp[Instr.lookup,run_underlying hu,hg,EQ,hfk]
theorem QB{x y:DV}{vx vy:Value}(hx:VR c x vx)(hy:VR c y vy):VR c (.tup [x,y]) (.tuple #[vx,vy]):=by
 refine .tup (ds:=[x,y]) (vs:=[vx,vy]) rfl (fun i h1 h2=>?_)
 match i,h1,h2 with
 | 0,_,_=>exact hx
 | 1,_,_=>exact hy
theorem BS{t key e:TypeId}{sz bytes:Nat}{z:DV}{q:EqT}{ok:Bool}{x y:Operand}{x' y':Opd}(ho:o.op=.lookup t x y ok)(hu:P.underlying t=some (.map key e))(he:dY P e=some (sz,bytes,z))(hq:eqT P key=some q)
  (hx:opd x=some x') (hy:opd y=some y') (hR:Rel h c) (hE:cI c env a) (hs:aC h env (.lookup q z ok x' y')=some (r,h')):bB P h c o a h' r:=by
 have vx:=bI hx hE
 have vy:=bI hy hE
 obtain⟨i,z0,hi,e1,e2,hz,yM,eI,dD⟩:=fA he
 simp only[aC]at hs
 split at hs
 ·rename_i es Gw
  split at hs
  ·rename_i hsome
   have jQ:∃ (es':List (DV×DV)) (entries:Array MapEntry),es.Perm es'∧rB c es' entries.toList∧((a.eval x=.map none∧entries=#[])∨∃ b clock,a.eval x=.map (some b)∧c.w.heap[b]?=some (.map entries clock)):=by
    split at Gw
    ·rename_i hv
     cases Gw
     rw[hv]at vx
     exact⟨[],#[],.refl _,⟨rfl,by simp⟩,.inl ⟨vx.nmap_inv,rfl⟩⟩
    ·rename_i id hv
     split at Gw
     ·rename_i es' hg
      cases Gw
      rw[hv]at vx
      obtain⟨b,dN,hρ⟩:=vx.map_inv
      obtain⟨es',entries,clock,hp,h2,h3,_⟩:=hR.mapo hg hρ
      exact⟨es',entries,hp,h3,.inr ⟨b,clock,dN,h2⟩⟩
     ·cases Gw
    ·cases Gw
   obtain⟨es',entries,kP,jG,jQ⟩:=jQ
   have EQ:=vS (P:=P) hq vy hsome entries.isEmpty c.w
   split at hs
   ·rename_i j v hf
    simp only[Option.some.injEq,Prod.mk.injEq]at hs
    obtain⟨rfl,rfl⟩:=hs
    obtain⟨j0,e0,MM,_,_⟩:=mW kP hf
    obtain⟨iZ,g1,g2⟩:=iX (P:=P) hq vy c.w jG MM
    cases iZ with
    | none=>exact g2.elim
    | some p =>
     obtain⟨j',u⟩:=p
     have hJ:=Cf (P:=P) (ok:=ok) hu hi hz jQ EQ g1
     refine bB.value (if ok then .tuple #[u,.bool true]else u) (by simp[execOp,ho,hJ]) ?_
     cases ok
     ·exact g2.2.1
     ·exact QB g2.2.1 (.bool true)
   ·rename_i hf
    simp only[Option.some.injEq,Prod.mk.injEq]at hs
    obtain⟨rfl,rfl⟩:=hs
    obtain⟨iZ,g1,g2⟩:=iX (P:=P) hq vy c.w jG (mW kP hf)
    cases iZ with
    | some p=>exact g2.elim
    | none =>
     have hJ:=Cf (P:=P) (ok:=ok) hu hi hz jQ EQ g1
     refine bB.value (if ok then .tuple #[z0,.bool false]else z0) (by simp[execOp,ho,hJ]) ?_
     cases ok
     ·exact eM yM c
     ·exact QB (eM yM c) (.bool false)
   ·cases hs
  ·cases hs
 ·cases hs
theorem N7{t:TypeId}(ho:o.op=.makeMap t none)(hR:Rel h c)(_hE:cI c env a)(hs:aC h env .makeMap=some (r,h')):fK P h c o a h' r:=by
 simp only[aC,Option.some.injEq,Prod.mk.injEq]at hs
 obtain⟨rfl,rfl⟩:=hs
 obtain⟨k1,k2⟩:=hR.push (.mp []) {c.w with heap:=c.w.heap.push (.map #[] 0)} c.w.heap.size 0 (Nat.le_refl _) (by simp) (fun k hk=>by simp[Array.getElem?_push];omega) (.push rfl trivial rfl rfl) (fun cM=>by
  exact⟨[],.refl _,c.w.heap.size,#[],0,by simp[Ctx.next],(by show(c.w.heap.push (.map #[] 0))[c.w.heap.size]?=_;simp),rfl,fun i h1 _=>absurd h1 (by simp),⟨fun e he=>by simp at he,by simp⟩⟩)
 refine⟨.value (.map (some c.w.heap.size)),_,{c.w with heap:=c.w.heap.push (.map #[] 0)},by simp[execOp,ho,Instr.makeMap],.inl rfl,_,k1,k2,.map (by simp[Ctx.next])⟩
theorem Rc{q:EqT}{d d':DV}{x x':Value}(hb:fO q d d'=some true)(hx:VR c d x)(Im:VR c d' x')(n:Nat):Instr.sameBits (n+1) x' x=true:=by
 have prim:∀(k n:Nat) (e e':DV) (u u':Value),fX k e e'=some true→VR c e u→VR c e' u'→Instr.sameBits n u' u=true:=by
  intro k n e e' u u' hp hu ME
  cases hu<;>cases ME<;>simp[fX]at hp
  ·obtain⟨_,rfl⟩:=hp;simp[Instr.sameBits]
  ·obtain⟨⟨_,rfl⟩,rfl⟩:=hp;simp[Instr.sameBits]
  ·obtain⟨_,rfl⟩:=hp;simp only[Instr.sameBits];rw[beq_toListBytes];simp
 cases q with
 | prim k=>exact prim k _ _ _ _ _ hb hx Im
 | agg ks =>
  cases hx<;>simp only[fO]at hb<;>try (cases hb;done)
  cases Im<;>simp only at hb<;>try (cases hb;done)
  rename_i ds vs hl h1 hv ds' vs' Od Zf Td
  have cB:vs.length=vs'.length:=by
   have:=lO _ _ _ _ hb
   first|omega|(simp_all)
  have all:∀(ks:List Nat) (ds ds':List DV) (vs vs':List Value),VRs c ds vs→VRs c ds' vs'→cC ks ds ds'=some true→(vs'.zip vs).all (fun(x,y)=>Instr.sameBits n x y)=true:=by
   intro ks
   induction ks with
   | nil =>
    intro ds ds' vs vs' g1 g2 g3
    cases ds<;>cases ds'<;>simp[cC]at g3
    have:vs=[]:=List.eq_nil_of_length_eq_zero g1.1.symm
    subst this
    simp
   | cons k ks ih =>
    intro ds ds' vs vs' g1 g2 g3
    cases ds with
    | nil=>simp[cC]at g3
    | cons e ds =>
     cases ds' with
     | nil=>simp[cC]at g3
     | cons e' ds' =>
      cases vs with
      | nil=>have:=g1.1;simp at this
      | cons v vs =>
       cases vs' with
       | nil=>have:=g2.1;simp at this
       | cons v' vs' =>
        simp only[cC]at g3
        split at g3
        ·rename_i b Z4
         split at g3
         ·rename_i b' Ip
          simp only[Option.some.injEq,Bool.and_eq_true]at g3
          obtain⟨rfl,rfl⟩:=g3
          have t1:VRs c ds vs:=⟨by simpa using g1.1,fun i h1 h2=>by have:=g1.2 (i+1) (by simpa using h1) (by simpa using h2);simpa using this⟩
          have t2:VRs c ds' vs':=⟨by simpa using g2.1,fun i h1 h2=>by have:=g2.2 (i+1) (by simpa using h1) (by simpa using h2);simpa using this⟩
          have p0:=prim k n e e' v v' Z4 (g1.2 0 (by simp) (by simp)) (g2.2 0 (by simp) (by simp))
          simp only[List.zip_cons_cons,List.all_cons,Bool.and_eq_true]
          exact⟨p0,ih ds ds' vs vs' t1 t2 Ip⟩
         ·cases g3
        ·cases g3
  have:=all ks ds ds' vs vs' ⟨by assumption,by assumption⟩ ⟨by assumption,by assumption⟩ hb
  simp only[Instr.sameBits,List.size_toArray,cB,Bool.and_eq_true,beq_self_eq_true,true_and]
  exact this
theorem Hg{q:EqT}{d:DV}:∀(es:List (DV×DV)) (i j:Nat) (v:DV),fG q d es i=some (some (j,v))→∃ idx e,j=i+idx∧es[idx]?=some e∧fO q d e.1=some true
 | [],i,j,v,hf=>by simp[fG]at hf
 | e::es,i,j,v,hf=>by
  obtain⟨k',v'⟩:=e
  simp only[fG]at hf
  split at hf
  ·rename_i hb
   cases hf
   exact⟨0,_,rfl,rfl,hb⟩
  ·obtain⟨idx,e,h1,h2,h3⟩:=Hg es (i+1) j v hf
   exact⟨idx+1,e,by omega,by simpa using h2,h3⟩
  ·cases hf
theorem Aq.modify{en:Array MapEntry}{clk:Nat}(hb:Aq en clk){f:MapEntry→MapEntry}(j:Nat)(hf:∀e,(f e).born=e.born):Aq (en.modify j f) clk:=by
 have e1:(en.modify j f).toList.map (·.born)=en.toList.map (·.born):=by
  apply List.ext_getElem?
  intro i
  simp only[List.getElem?_map,Array.getElem?_toList,Array.getElem?_modify]
  split
  ·cases en[i]? with
   | none=>rfl
   | some e=>simp[hf]
  ·rfl
 refine⟨fun e he=>?_,by rw[e1];exact hb.inc⟩
 have h1:e.born∈(en.modify j f).toList.map (·.born):=List.mem_map_of_mem he
 rw[e1]at h1
 obtain⟨e2,h2,h3⟩:=List.mem_map.1 h1
 rw[←h3];exact hb.lt e2 h2
theorem Aq.push{en:Array MapEntry}{clk:Nat}(hb:Aq en clk){e:MapEntry}(he:e.born=clk):Aq (en.push e) (clk+1):=by
 refine⟨fun x hx=>?_,?_⟩
 ·simp only[Array.toList_push,List.mem_append,List.mem_singleton]at hx
  rcases hx with hx|rfl
  ·exact Nat.lt_succ_of_lt (hb.lt x hx)
  ·omega
 ·simp only[Array.toList_push,List.map_append,List.map_cons,List.map_nil]
  refine List.pairwise_append.2 ⟨hb.inc,List.pairwise_singleton _ _,fun a ha b Ip=>?_⟩
  obtain⟨x,hx,rfl⟩:=List.mem_map.1 ha
  rw[List.mem_singleton.1 Ip,he]
  exact hb.lt x hx
theorem Aq.erase{en:Array MapEntry}{clk:Nat}(hb:Aq en clk)(i:Nat):Aq (en.eraseIdxIfInBounds i) clk:=by
 have e1:(en.eraseIdxIfInBounds i).toList=en.toList.eraseIdx i:=by
  unfold Array.eraseIdxIfInBounds
  split
  ·simp
  ·rw[List.eraseIdx_of_length_le (by simp;omega)]
 refine⟨fun e he=>hb.lt e ?_,?_⟩
 ·rw[e1]at he;exact List.mem_of_mem_eraseIdx he
 ·rw[e1]
  exact hb.inc.sublist ((List.eraseIdx_sublist _ _).map _)
theorem zJ(hR:Rel h c){id:Nat}{es es1 es':List (DV×DV)}(hp:es1.Perm es')(hg:h.get id=some (.mp es)){b base:Nat}(hρ:c.ρ id=some (b,base)){entries entries':Array MapEntry}{clock clock':Nat}(h2:c.w.heap[b]?=some (.map entries clock))(jG:rB c es' entries'.toList)(oT:Aq entries' clock') :
  lF h c (h.set id (.mp es1)) {c.w with heap:=c.w.heap.setIfInBounds b (.map entries' clock')} (.tup []) undef:=by
 have hb:=(Array.getElem?_eq_some_iff.1 h2).1
 have hbase:base=0:=by
  obtain⟨_,_,b',en,cl,q1,q2,q3,q4,_⟩:=hR.obj id _ hg
  rw[hρ]at q1;cases q1;rfl
 subst hbase
 obtain⟨k1,k2⟩:=hR.set (.mp es1) hg rfl rfl hρ {c.w with heap:=c.w.heap.setIfInBounds b (.map entries' clock')} (by simp) (fun k hk=>by simp[Array.getElem?_setIfInBounds_ne (Ne.symm hk)]) (fun e n hs=>by simp[World.shape?,h2]at hs) (.at h2 (ob':=.map entries' clock') (by simp[hb]) (fun k hk=>by simp[Array.getElem?_setIfInBounds_ne (Ne.symm hk)]) trivial trivial rfl rfl) (fun cM=>by
  refine⟨es',hp,b,entries',clock',hρ,by simp[Ctx.next,hb],by simpa using jG.1,fun i a1 a2=>?_,oT⟩
  have:=jG.2 i _ _ (List.getElem?_eq_getElem a1) (by rw[Array.getElem?_toList];exact Array.getElem?_eq_getElem a2)
  exact⟨this.1.mono cM,this.2.mono cM⟩)
 exact⟨_,k1,k2,.tup (ds:=[]) (vs:=[]) rfl (fun i h1 _=>absurd h1 (by simp))⟩
theorem tA{b:Nat}{w:World}{entries:Array MapEntry}{clock:Nat}(h2:w.heap[b]?=some (.map entries clock))(ob:Obj):(setObj b ob).run P w=.ok () {w with heap:=w.heap.setIfInBounds b ob}:=by
 simp[setObj,Sem.run,h2]
theorem Ce{t key e:TypeId}{q:EqT}{x y v:Operand}{x' y' v':Opd}(ho:o.op=.mapUpdate t x y v∨o.op=.insert t x y v)(hu:P.underlying t=some (.map key e))(hq:eqT P key=some q)
  (hx:opd x=some x') (hy:opd y=some y') (hv:opd v=some v') (hR:Rel h c) (hE:cI c env a) (hs:aC h env (.mapUpdate q x' y' v')=some (r,h')):fK P h c o a h' r:=by
 have vx:=bI hx hE
 have vy:=bI hy hE
 have vv:=bI hv hE
 have Z2:execOp a.eval o=(do Instr.mapUpdate t (a.eval x) (a.eval y) (a.eval v);pure .skip):=by rcases ho with ho|ho<;>simp[execOp,ho]
 simp only[aC]at hs
 split at hs
 ·rename_i id eK
  split at hs
  ·rename_i es hg
   split at hs
   ·rename_i bU
    obtain⟨aS,hsome⟩:=bU
    rw[eK]at vx
    obtain⟨b,dN,hρ⟩:=vx.map_inv
    obtain⟨es',entries,clock,kP,h2,jG,oT⟩:=hR.mapo hg hρ
    have EQ:=vS (P:=P) hq vy hsome false c.w
    have Lb:(getObj b).run P c.w=.ok (.map entries clock) c.w:=by simp[getObj,Sem.run,h2]
    split at hs
    ·rename_i i0 u hf
     simp only[Option.some.injEq,Prod.mk.injEq]at hs
     obtain⟨rfl,rfl⟩:=hs
     obtain⟨j,e1,MM,nG,T5⟩:=mW kP hf
     obtain⟨iZ,g1,g2⟩:=iX (P:=P) hq vy c.w jG MM
     obtain⟨idx,e0,q1,q2,q3⟩:=Hg es' 0 j u MM
     rw[Nat.zero_add]at q1
     subst q1
     have T2:=Ni kP nG T5 (y'.eval env,v'.eval env)
     generalize Bj:es.set i0 (y'.eval env,v'.eval env)=es1 at T2
     cases iZ with
     | none=>exact g2.elim
     | some p =>
      obtain⟨j',u'⟩:=p
      obtain⟨rfl,_,_,Yy⟩:=g2
      rw[Nat.zero_add]at Yy
      have hjl':j<entries.size:=by have:=jG.1;simp at this;omega
      have hek:entries[j]?=some entries[j]:=Array.getElem?_eq_getElem hjl'
      have hent0:=jG.2 j e0 entries[j] q2 (by rw[Array.getElem?_toList];exact hek)
      have jD:=Rc (c:=c) q3 vy hent0.1 9999
      have KC:=tA (P:=P) h2 (.map (entries.modify j fun en=>{en with key:=a.eval y,val:=a.eval v}) clock)
      refine⟨.skip,undef,_,?_,.inr ⟨rfl,rfl⟩,zJ hR T2 hg hρ h2 (entries':=entries.modify j fun en=>{en with key:=a.eval y,val:=a.eval v}) (clock':=clock) ?_ (oT.modify _ (fun _=>rfl))⟩
      ·rw[Z2]
       have Gt:(Instr.keyThatStays entries[j].key (a.eval y)).run P c.w=.ok (a.eval y) c.w:=by simp[Instr.keyThatStays,jD]
       simp only[Instr.mapUpdate,dN,Sem.run_bind,run_underlying hu,Result.andThen_ok,Lb,EQ,g1,hek,Option.map_some,Option.getD_some,Gt,KC,Sem.run_pure]
      ·refine⟨by simp[jG.1],fun k e1 m1 h3 h4=>?_⟩
       rw[List.getElem?_set]at h3
       rw[Array.getElem?_toList,Array.getElem?_modify]at h4
       by_cases hk:j=k
       ·subst hk
        rw[if_pos rfl,if_pos Yy]at h3
        rw[if_pos rfl,hek]at h4
        cases h3;cases h4
        exact⟨vy,vv⟩
       ·rw[if_neg hk]at h3 h4
        exact jG.2 k e1 m1 h3 (by rw[Array.getElem?_toList];exact h4)
    ·rename_i hf
     simp only[Option.some.injEq,Prod.mk.injEq]at hs
     obtain⟨rfl,rfl⟩:=hs
     obtain⟨iZ,g1,g2⟩:=iX (P:=P) hq vy c.w jG (mW kP hf)
     have T2:(es++[(y'.eval env,v'.eval env)]).Perm (es'++[(y'.eval env,v'.eval env)]):=kP.append_right _
     generalize Bj:es++[(y'.eval env,v'.eval env)]=es1 at T2
     cases iZ with
     | some p=>exact g2.elim
     | none =>
      have KC:=tA (P:=P) h2 (.map (entries.push {key:=a.eval y,val:=a.eval v,born:=clock}) (clock+1))
      refine⟨.skip,undef,_,?_,.inr ⟨rfl,rfl⟩,zJ hR T2 hg hρ h2 (entries':=entries.push {key:=a.eval y,val:=a.eval v,born:=clock}) (clock':=clock+1) ?_ (oT.push rfl)⟩
      ·rw[Z2]
       simp only[Instr.mapUpdate,dN,Sem.run_bind,run_underlying hu,Result.andThen_ok,Lb,EQ,g1,KC,Sem.run_pure]
      ·have hl:=jG.1
       refine⟨by simp at hl ⊢;exact hl,fun k e1 m1 h3 h4=>?_⟩
       rw[List.getElem?_append]at h3
       rw[Array.getElem?_toList,Array.getElem?_push]at h4
       have Od:es'.length=entries.size:=by simpa using hl
       split at h3
       ·rw[if_neg (by omega)]at h4
        exact jG.2 k e1 m1 h3 (by rw[Array.getElem?_toList];exact h4)
       ·have hk:k=es'.length:=by
         have:=(List.getElem?_eq_some_iff.1 h3).1
         simp at this;omega
        subst hk
        rw[if_pos (by omega)]at h4
        simp at h3
        cases h4;subst h3
        exact⟨vy,vv⟩
    ·cases hs
   ·cases hs
  ·cases hs
 ·cases hs
theorem BV{t u key e:TypeId}{q:EqT}{x y:Operand}{x' y':Opd}(ho:o.op=.call {callee:=.builtin .delete,args:=#[x,y],argTypes:=#[t,u]})(hu:P.underlying t=some (.map key e))(hq:eqT P key=some q)
  (hx:opd x=some x') (hy:opd y=some y') (hR:Rel h c) (hE:cI c env a) (hs:aC h env (.delete q x' y')=some (r,h')):fK P h c o a h' r:=by
 have vx:=bI hx hE
 have vy:=bI hy hE
 simp only[aC]at hs
 split at hs
 ·rename_i id eK
  split at hs
  ·rename_i es hg
   split at hs
   ·rename_i bU
    obtain⟨aS,hsome⟩:=bU
    rw[eK]at vx
    obtain⟨b,dN,hρ⟩:=vx.map_inv
    obtain⟨es',entries,clock,kP,h2,jG,oT⟩:=hR.mapo hg hρ
    have EQ:=vS (P:=P) hq vy hsome entries.isEmpty c.w
    have Lb:(getObj b).run P c.w=.ok (.map entries clock) c.w:=by simp[getObj,Sem.run,h2]
    split at hs
    ·rename_i i0 w0 hf
     simp only[Option.some.injEq,Prod.mk.injEq]at hs
     obtain⟨rfl,rfl⟩:=hs
     obtain⟨j,e1,MM,nG,T5⟩:=mW kP hf
     obtain⟨iZ,g1,g2⟩:=iX (P:=P) hq vy c.w jG MM
     cases iZ with
     | none=>exact g2.elim
     | some p =>
      obtain⟨j',u'⟩:=p
      obtain⟨rfl,_,_,Yy⟩:=g2
      have KC:=tA (P:=P) h2 (.map (entries.eraseIdxIfInBounds j) clock)
      have hl:es'.length=entries.size:=by simpa using jG.1
      have hjl':j<entries.size:=by omega
      have hlist:(entries.eraseIdxIfInBounds j).toList=entries.toList.eraseIdx j:=by simp[Array.eraseIdxIfInBounds,hjl']
      refine⟨.value (.tuple #[]),(.tuple #[]),_,?_,.inl rfl,zJ hR (Fs kP nG T5) hg hρ h2 (entries':=entries.eraseIdxIfInBounds j) (clock':=clock) ?_ (oT.erase j)⟩
      ·rw[cP ho]
       simp[builtin,Builtin.delete_,run_underlying hu,dN,Lb,EQ,g1,KC]
      ·rw[hlist]
       refine⟨by rw[List.length_eraseIdx_of_lt (by omega),List.length_eraseIdx_of_lt (by simpa using hjl')];simp[hl],fun k e1 m1 h3 h4=>?_⟩
       rw[List.getElem?_eraseIdx]at h3 h4
       split at h3
       ·rename_i hk;rw[if_pos hk]at h4;exact jG.2 _ _ _ h3 h4
       ·rename_i hk;rw[if_neg hk]at h4;exact jG.2 _ _ _ h3 h4
    ·rename_i hf
     simp only[Option.some.injEq,Prod.mk.injEq]at hs
     obtain⟨rfl,rfl⟩:=hs
     obtain⟨iZ,g1,g2⟩:=iX (P:=P) hq vy c.w jG (mW kP hf)
     cases iZ with
     | some p=>exact g2.elim
     | none =>
      have KC:=tA (P:=P) h2 (.map entries clock)
      refine⟨.value (.tuple #[]),(.tuple #[]),_,?_,.inl rfl,zJ hR kP hg hρ h2 (entries':=entries) (clock':=clock) jG oT⟩
      rw[cP ho]
      simp[builtin,Builtin.delete_,run_underlying hu,dN,Lb,EQ,g1,KC]
    ·cases hs
   ·cases hs
  ·cases hs
 ·cases hs
end
end Go.Dm
