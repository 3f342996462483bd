/- A part of the proof. -/
import Derived.Test.YtfkbogedodngeaaGreatDoorMm1
import Derived.Laws.BytesString
set_option linter.all false
namespace Go.Dm
section
variable {P:Program} {h h':aA} {c:Ctx} {env:Env} {a:Act} {o:Oper} {r:DV}
theorem OQ:∀{ys:List DV} {s:List UInt8},ys.mapM Qy=some s→∃ ns:List Int,ys=ns.map (DV.int .u8)∧s=ns.map fun n=>UInt8.ofNat n.toNat:=by
 intro ys
 induction ys with
 | nil=>intro s h;simp at h;subst h;exact⟨[],rfl,rfl⟩
 | cons y ys ih =>
  intro s h
  simp only[List.mapM_cons,Option.pure_def,Option.bind_eq_bind,Option.bind_eq_some_iff]at h
  obtain⟨b,hb,t,ht,h⟩:=h
  cases h
  obtain⟨ns,rfl,rfl⟩:=ih ht
  unfold Qy at hb
  split at hb
  ·rename_i n
   cases hb
   exact⟨n::ns,rfl,rfl⟩
  ·cases hb
theorem Zw:∀(ns:List Int) (b:ByteArray),ns.foldl (fun r n=>r.push (UInt8.ofNat n.toNat)) b=⟨b.data++(ns.map fun n=>UInt8.ofNat n.toNat).toArray⟩:=by
 intro ns
 induction ns with
 | nil=>intro b;cases b;simp
 | cons n ns ih =>
  intro b
  rw[List.foldl_cons,ih]
  cases b
  simp[ByteArray.push]
theorem Yz{src dst e:TypeId}{x:Operand}{x':Opd}(ho:o.op=.convert src dst x)(hs1:P.underlying src=some (.slice e))(hs2:P.underlying dst=some .string)(he:P.underlying e=some (.int .u8))(hx:opd x=some x')(hR:Rel h c)(hE:bY c env a)
  (hs:aC h env (.bytesStr x')=some (r,h')):fE P h c o a h' r:=by
 have vx:=bD hx hE
 simp only[aC]at hs
 split at hs
 ·rename_i ys xA
  split at hs
  ·rename_i s hm
   simp only[Option.some.injEq,Prod.mk.injEq]at hs
   obtain⟨rfl,rfl⟩:=hs
   obtain⟨ns,rfl,rfl⟩:=OQ hm
   obtain⟨ad,cap,news,q1,q2,q3,q4,q5⟩:=kR hR xA vx
   have hconv:(convert src dst (a.eval x)).run P c.w=.ok (.string ⟨(ns.map fun n=>UInt8.ofNat n.toNat).toArray⟩) c.w:=by
    rw[q1,run_convert_bytes_string c.w src dst e _ _ _ hs1 he hs2]
    cases ad with
    | none =>
     have:=q4 rfl
     have:ns=[]:=by simpa using this
     subst this
     rfl
    | some adr =>
     have hnews:news=ns.map (Value.int .u8):=by
      obtain⟨w1,w2,w3⟩:=q3
      apply List.ext_getElem?
      intro i
      by_cases hi:i<ns.length
      ·obtain⟨_,w4⟩:=w3 i (.int .u8 ns[i]) (by simp[hi])
       obtain⟨u,w5,w6⟩:=w4 0 (.int .u8 ns[i]) rfl
       have:=w6.int_inv
       subst this
       simp at w5
       rw[w5];simp[hi]
      ·rw[List.getElem?_eq_none (by simp at w1;omega),List.getElem?_eq_none (by simpa using Nat.le_of_not_lt hi)]
     have hl:(loadCells adr (ns.map (DV.int .u8)).length).run P c.w=.ok (ns.map (Value.int .u8)).toArray c.w:=by
      have:=run_loadCells_list (P:=P) c.w adr news (fun j v hj=>q5 adr rfl j v hj)
      rw[hnews]at this
      simpa using this
     rw[run_bytesToString c.w adr _ cap ns hl,Zw]
     simp[ByteArray.empty,ByteArray.emptyWithCapacity]
     try rfl
   exact⟨.value (.string ⟨(ns.map fun n=>UInt8.ofNat n.toNat).toArray⟩),_,c.w,by simp[execOp,ho,hconv],.inl rfl,jS.pure hR (.str _)⟩
  ·cases hs
 ·cases hs
theorem Ti(t:List UInt8):iQ c 1 (t.map fun b=>DV.int .u8 b.toNat) (t.map fun b=>Value.int .u8 b.toNat):=by
 refine⟨by simp,fun u hu=>?_,fun i d hd=>?_⟩
 ·simp only[List.mem_map]at hu
  obtain⟨b,_,rfl⟩:=hu
  rfl
 ·rw[List.getElem?_map]at hd
  simp only[Option.map_eq_some_iff]at hd
  obtain⟨b,hb,rfl⟩:=hd
  refine⟨rfl,fun j e he=>?_⟩
  match j,he with
  | 0,he =>
   cases he
   exact⟨.int .u8 b.toNat,by simp[hb],.int _ _⟩
  | j+1,he=>simp[aF]at he
theorem Vv(t:List UInt8):(ByteArray.extract ⟨t.toArray⟩ 0 t.length).data=t.toArray:=by
 rw[ByteArray.data_extract]
 simp
theorem CE(t:List UInt8)(sz:Nat)(w:World):(Builtin.firstCells sz t.length (.string ⟨t.toArray⟩)).run P w=.ok (t.map fun b=>Value.int .u8 b.toNat).toArray w:=by
 unfold Builtin.firstCells
 simp only[Vv]
 simp
theorem BP(t:List UInt8)(w:World):(Builtin.lenOf (.string ⟨t.toArray⟩)).run P w=.ok t.length w:=by
 simp[Builtin.lenOf,ByteArray.size]
theorem Z2{t u e:TypeId}{bytes:Nat}{z:DV}{s x:Operand}{s' x':Opd}(ho:o.op=.call {callee:=.builtin .append,args:=#[s,x],argTypes:=#[t,u]})(ht:P.underlying t=some (.slice e))(hu:P.underlying u=some .string)
  (he:dT P e=some (1,bytes,z)) (Br:opd s=some s') (hx:opd x=some x') (hR:Rel h c) (hE:bY c env a) (hs:aC h env (.appendS e 1 bytes s' x')=some (r,h')):fE P h c o a h' r:=by
 have vs:=bD Br hE
 have vx:=bD hx hE
 obtain⟨i,z0,hi,e1,e2,hz,zM,dX,cS⟩:=eR he
 subst e2
 obtain⟨hz3,VZ,hz4⟩:=dM cS (eD zM c)
 have WA:∀j (hj:j<z0.cells.size),(z0.cells[j]).oneCell'=true:=fun j hj=>(hz4 j (by omega) hj).2
 simp only[aC]at hs
 split at hs
 ·rename_i str hstr
  rw[hstr]at vx
  have dD:=vx.str_inv
  have hfirst:=fun w=>CE (P:=P) str 1 w
  have hlenof:=fun w=>BP (P:=P) str w
  obtain⟨v',w',h1,h2⟩:=rN (P:=P) hR (by omega) (Ti (c:=c) str) (run:=fun v=>(Builtin.append_ #[t,u] o.type #[v,a.eval x]).run P c.w)
   (fun hy base sLen sCap cD=>by
    have:str=[]:=by simpa using hy
    subst this
    rw[dD]
    have hf:=hfirst c.w
    have hl:=hlenof c.w
    simp only[List.length_nil,List.map_nil]at hf hl
    cases base<;>simp[Builtin.append_,run_underlying ht,run_underlying hu,sizeOf,typeInfo,hi,hl,cD,hf,e1,storeCells])
   (fun b co sLen sCap cur ety g1 mC _ lK=>by
    rw[dD]
    have cS:=iS (P:=P) g1 _ lK (Ti (c:=c) str).2.1
    have hf:=hfirst c.w
    have hl:=hlenof c.w
    simp only[List.length_map,Nat.mul_one]at mC cS ⊢
    simp[Builtin.append_,run_underlying ht,run_underlying hu,sizeOf,typeInfo,hi,hl,mC,hf,Addr.add_lit,e1,cS])
   (fun base sLen sCap olds LU hg h63 hb=>by
    simp only[List.length_map]at hg h63 hb ⊢
    refine⟨_,Builtin.zeroCells z0.cells (grownCap c.w (sLen+str.length) sCap e-(sLen+str.length)),grownCap_ge _ _ _ _,⟨by rw[cL,VZ],tH WA⟩,?_⟩
    rw[dD]
    have hf:=hfirst c.w.drew
    have hl:=hlenof c.w
    have hn:¬(sLen+str.length≤sCap):=by omega
    have h63':¬(9223372036854775807<((sLen:Int)+(str.length:Int))):=by omega
    have G9:¬(281474976710656<Builtin.nextslicecap (sLen+str.length) sCap*i.bytes):=by have:=growslice_fits hg hb;omega
    simp[e1,Builtin.append_,run_underlying ht,run_underlying hu,sizeOf,typeInfo,zeroValue,hi,hz,hl,hn,h63',G9,Question.forced,hf,LU,newRow,grownCap]
    congr 2
    apply Array.ext'
    simp[List.append_assoc])
   vs hs
  exact⟨.value v',v',w',by rw[cG ho];simp[builtin,h1],.inl rfl,h2⟩
 ·cases hs
end
end Go.Dm
/-
Part 15 of "Dm": every operation that is no call does what the machine says.
-/
namespace Go.Dm
def jZ:DOp→Bool
 | .alloc ..|.box ..|.buildSlice ..|.store ..|.append ..|.appendZ ..|.copy ..|.clear ..|.makeSlice ..|.makeMap|.mapUpdate ..|.delete ..|.range ..|.next ..|.entry ..|.bytesStr ..|.appendS ..|.call ..=>true
 | _=>false
def N1(P:Program)(h:aA)(c:Ctx)(o:Oper)(a:Act)(h':aA)(r:DV)(d:DOp):Prop :=
 match jZ d with
 | true=>fE P h c o a h' r
 | false=>aX P h c o a h' r
section
variable {P:Program} {h h':aA} {c:Ctx} {env:Env} {a:Act} {o:Oper} {r:DV}
theorem QZ{d:DOp}(hc:fS P o=some d)(hnc:∀f as,d≠.call f as)(hR:Rel h c)(hE:bY c env a)(hs:aC h env d=some (r,h')):N1 P h c o a h' r d:=by
 unfold fS at hc
 split at hc
 ·rename_i x ho
  simp only[Option.map_eq_some_iff]at hc
  obtain⟨x',hx,rfl⟩:=hc
  exact GD (.inl ho) hx hR hE hs
 ·rename_i x ho
  simp only[Option.map_eq_some_iff]at hc
  obtain⟨x',hx,rfl⟩:=hc
  exact GD (.inr ho) hx hR hE hs
 ·rename_i x y z ho
  split at hc
  ·rename_i x' y' z' hx hy hz;cases hc;exact UM ho hx hy hz hR hE hs
  ·cases hc
 ·rename_i e ho
  split at hc
  ·rename_i sz b z he;cases hc;exact NL ho he hR hE hs
  ·cases hc
 ·rename_i e x ho
  split at hc
  ·rename_i sz b z x' he hx;cases hc;exact k8 ho he hx hR hE hs
  ·cases hc
 ·rename_i t parts ho
  split at hc
  ·rename_i fs sz b z ht he
   split at hc
   ·rename_i ps hp
    split at hc
    ·rename_i iD;cases hc;exact Jr ho ht he hp iD hR hE hs
    ·cases hc
   ·cases hc
  ·rename_i n e sz b z ht he
   split at hc
   ·rename_i esz eb ez Rk
    split at hc
    ·rename_i ps hp;cases hc;exact Oj ho ht he Rk hp hR hE hs
    ·cases hc
   ·cases hc
  ·cases hc
 ·rename_i t len parts ho
  split at hc
  ·rename_i e ht
   split at hc
   ·rename_i sz b z he
    split at hc
    ·rename_i ps hp
     split at hc
     ·rename_i hsm;cases hc;exact Oi ho ht he hp hsm hR hE hs
     ·cases hc
    ·cases hc
   ·cases hc
  ·cases hc
 ·rename_i t x ho
  split at hc
  ·rename_i n x' hn hx;cases hc;exact UN ho hn hx hR hE hs
  ·cases hc
 ·rename_i t x y ho
  split at hc
  ·rename_i i x' y' hi hx hy
   split at hc
   ·cases hc;exact NF ho hi hx hy hR hE hs
   ·cases hc
  ·cases hc
 ·rename_i x ho
  simp only[Option.map_eq_some_iff]at hc
  obtain⟨x',hx,rfl⟩:=hc
  exact Yv ho hx hR hE hs
 ·rename_i op t x y u ho
  split at hc
  ·rename_i x' y' hx hy
   split at hc
   ·cases hc;exact P3 ho hx hy hR hE hs
   ·cases hc;exact P3 ho hx hy hR hE hs
   ·rename_i hu
    split at hc
    ·cases hc;exact RD (neq:=false) (by simpa using ho) hu hx hy hR hE hs
    ·cases hc;exact RD (neq:=true) (by simpa using ho) hu hx hy hR hE hs
    ·cases hc
   ·rename_i fs hu
    split at hc
    ·rename_i ks hk;cases hc;exact P2 (neq:=false) (by simpa using ho) (by simp[dO,hu]) hk hx hy hR hE hs
    ·rename_i ks hk;cases hc;exact P2 (neq:=true) (by simpa using ho) (by simp[dO,hu]) hk hx hy hR hE hs
    ·cases hc
   ·rename_i n e hu
    split at hc
    ·rename_i ks hk;cases hc;exact P2 (neq:=false) (by simpa using ho) (by simp[dO,hu]) hk hx hy hR hE hs
    ·rename_i ks hk;cases hc;exact P2 (neq:=true) (by simpa using ho) (by simp[dO,hu]) hk hx hy hR hE hs
    ·cases hc
   ·rename_i desc _ _ _ _ _ hu
    split at hc
    ·rename_i k hk
     split at hc
     ·rename_i uM
      split at hc
      ·cases hc;exact RC (neq:=false) (by simpa using ho) hu hk uM hx hy hR hE hs
      ·cases hc;exact RC (neq:=true) (by simpa using ho) hu hk uM hx hy hR hE hs
      ·cases hc
     ·cases hc
    ·cases hc
   ·cases hc
  ·cases hc
 ·rename_i op t x ho
  simp only[Option.map_eq_some_iff]at hc
  obtain⟨x',hx,rfl⟩:=hc
  exact s_un ho hx hR hE hs
 ·rename_i src dst x ho
  split at hc
  ·rename_i k0 k x' h1 h2 hx;cases hc;exact UP ho h1 h2 hx hR hE hs
  ·rename_i x' h1 h2 hx;cases hc;exact NK ho h1 h2 hx hR hE hs
  ·rename_i e x' h1 h2 hx
   split at hc
   ·rename_i h3;cases hc;exact Yz ho h1 h2 (OX h3) hx hR hE hs
   ·cases hc;exact(mS hs).elim
  ·cases hc;exact(mS hs).elim
 ·rename_i f first cap ho
  split at hc
  ·rename_i hf
   split at hc
   ·rename_i c' gZ;cases hc;exact Yw ho hf gZ hR hE hs
   ·cases hc
  ·cases hc
 ·rename_i s x f ho
  split at hc
  ·rename_i fs x' hu hx
   split at hc
   ·rename_i fl hf
    split at hc
    ·rename_i i hi
     split at hc
     ·rename_i dX;cases hc;exact Sz ho hu hf hi dX hx hR hE hs
     ·cases hc
    ·cases hc
   ·cases hc
  ·cases hc
 ·rename_i s x f ho
  split at hc
  ·rename_i fs x' hu hx
   split at hc
   ·rename_i fl hf
    split at hc
    ·rename_i n hn;cases hc;exact NI ho hu hf hn hx hR hE hs
    ·cases hc
   ·cases hc
  ·cases hc
 ·rename_i t x i ho
  split at hc
  ·rename_i e x' i' hu hx hi
   split at hc
   ·rename_i fi G6
    split at hc
    ·rename_i dX;cases hc;exact Sy ho hu G6 dX hx hi hR hE hs
    ·cases hc
   ·cases hc
  ·rename_i len e x' i' hu hx hi
   split at hc
   ·rename_i fi G6
    split at hc
    ·rename_i dX;cases hc;exact Yy ho hu G6 hx hi hR hE hs
    ·cases hc
   ·cases hc
  ·cases hc
 ·rename_i t x i ho
  split at hc
  ·rename_i len e x' i' hu hx hi
   split at hc
   ·rename_i fi n G6 hn;cases hc;exact NH ho hu G6 hn hx hi hR hE hs
   ·cases hc
  ·rename_i x' i' hu hx hi;cases hc;exact Yx ho hu hx hi hR hE hs
  ·cases hc
 ·rename_i t x lo hi ho
  split at hc
  ·rename_i x' lo' vN hu hx dY Qf;cases hc;exact Yu ho hu hx dY Qf hR hE hs
  ·rename_i e x' lo' vN hu hx dY Qf
   split at hc
   ·rename_i fi G6
    split at hc
    ·rename_i dX;cases hc;exact Y8 ho hu G6 dX hx dY Qf hR hE hs
    ·cases hc
   ·cases hc
  ·cases hc
 ·rename_i t x lo hi mx ho
  split at hc
  ·rename_i e x' lo' vN mx' hu hx dY Qf hmx
   split at hc
   ·rename_i fi G6;cases hc;exact GC ho hu G6 hx dY Qf hmx hE hs
   ·cases hc
  ·cases hc
 ·rename_i t l m ho
  split at hc
  ·rename_i e hu
   split at hc
   ·rename_i sz b z l' m' he hl hm;cases hc;exact Sw ho hu he hl hm hR hE hs
   ·cases hc
  ·cases hc
 ·rename_i t ho
  cases hc;exact Y9 ho hR hE hs
 ·rename_i t m k ok ho
  split at hc
  ·rename_i key e hu
   split at hc
   ·rename_i sz b z m' k' q he hm hk hq;cases hc;exact GE ho hu he hq hm hk hR hE hs
   ·cases hc
  ·cases hc
 ·rename_i t m k x ho
  split at hc
  ·rename_i key e hu
   split at hc
   ·rename_i m' k' x' q hm hk hx hq;cases hc;exact Dq (.inl ho) hu hq hm hk hx hR hE hs
   ·cases hc
  ·cases hc
 ·rename_i t m k x ho
  split at hc
  ·rename_i key e hu
   split at hc
   ·rename_i m' k' x' q hm hk hx hq;cases hc;exact Dq (.inr ho) hu hq hm hk hx hR hE hs
   ·cases hc
  ·cases hc
 ·rename_i x i ho
  simp only[Option.map_eq_some_iff]at hc
  obtain⟨x',hx,rfl⟩:=hc
  exact Z0 ho hx hR hE hs
 ·rename_i t x ho
  split at hc
  ·cases hc;cases hs
  ·cases hc;exact(mS hs).elim
 ·rename_i x sb ho
  split at hc
  ·cases hc;exact(mS hs).elim
  ·rename_i hsb
   simp only[Option.map_eq_some_iff]at hc
   obtain⟨x',hx,rfl⟩:=hc
   cases hs
 ·rename_i x ho
  simp only[Option.map_eq_some_iff]at hc
  obtain⟨x',hx,rfl⟩:=hc
  cases hs
 ·rename_i t x ho
  split at hc
  ·cases hc
  ·rename_i desc x' hni hu hx
   cases hc
   exact Sx ho hu (fun ms e=>hni ms (e ▸ rfl)) hx hR hE hs
  ·cases hc
 ·rename_i b args ats ho
  have conv1:∀{x:Operand} {t:TypeId},args.toList=[x]→ats.toList=[t]→o.op=.call {callee:=.builtin b,args:=#[x],argTypes:=#[t]}:=by
   intro x t h1 h2
   rw[ho]
   have e1:args=#[x]:=by apply Array.ext';simpa using h1
   have e2:ats=#[t]:=by apply Array.ext';simpa using h2
   rw[e1,e2]
  have conv2:∀{x y:Operand} {t u:TypeId},args.toList=[x,y]→ats.toList=[t,u]→o.op=.call {callee:=.builtin b,args:=#[x,y],argTypes:=#[t,u]}:=by
   intro x y t u h1 h2
   rw[ho]
   have e1:args=#[x,y]:=by apply Array.ext';simpa using h1
   have e2:ats=#[t,u]:=by apply Array.ext';simpa using h2
   rw[e1,e2]
  have conv3:∀{x y:Operand},args.toList=[x,y]→o.op=.call {callee:=.builtin b,args:=#[x,y],argTypes:=ats}:=by
   intro x y h1
   rw[ho]
   have e1:args=#[x,y]:=by apply Array.ext';simpa using h1
   rw[e1]
  split at hc
  ·rename_i x t ha ht
   split at hc
   ·rename_i x' hu hx;cases hc;exact GG (conv1 ha ht) hu rfl hx hR hE hs
   ·rename_i e x' hu hx;cases hc;exact GG (conv1 ha ht) hu rfl hx hR hE hs
   ·rename_i k e x' hu hx;cases hc;exact GG (conv1 ha ht) hu rfl hx hR hE hs
   ·rename_i n e x' hu hx;cases hc;exact GF (_x':=x') (conv1 ha ht) hu hR hE hs
   ·cases hc
  ·rename_i x t ha ht
   split at hc
   ·rename_i e x' hu hx;cases hc;exact k7 (conv1 ha ht) hu hx hR hE hs
   ·cases hc
  ·rename_i s x t u ha ht
   split at hc
   ·rename_i e hu
    split at hc
    ·rename_i sz b' z s' x' e' he Br hx RJ
     split at hc
     ·rename_i Rk;subst Rk;cases hc;exact GI (conv2 ha ht) hu RJ he Br hx hR hE hs
     ·cases hc
    ·rename_i sz b' z s' x' k he Br hx RJ;cases hc;exact Z1 (conv2 ha ht) hu RJ he Br hx hR hE hs
    ·rename_i sz b' z s' x' he Br hx RJ
     split at hc
     ·rename_i h3;obtain⟨h3,_⟩:=h3;subst h3;cases hc;exact Z2 (conv2 ha ht) hu RJ he Br hx hR hE hs
     ·cases hc
    ·cases hc
   ·cases hc
  ·rename_i d s t u ha ht
   split at hc
   ·rename_i e e' hu RJ
    split at hc
    ·rename_i fi d' s' G6 hd Br
     split at hc
     ·cases hc;exact UO (conv2 ha ht) hu G6 hd Br hR hE hs
     ·cases hc
    ·cases hc
   ·cases hc
  ·rename_i x t ha ht
   split at hc
   ·rename_i e hu
    split at hc
    ·rename_i sz b' z x' he hx;cases hc;exact NJ (conv1 ha ht) hu he hx hR hE hs
    ·cases hc
   ·cases hc
  ·rename_i m k t u ha ht
   split at hc
   ·rename_i key e hu
    split at hc
    ·rename_i m' k' q hm hk hq;cases hc;exact GH (conv2 ha ht) hu hq hm hk hR hE hs
    ·cases hc
   ·cases hc
  ·rename_i x y ha
   split at hc
   ·rename_i x' y' hx hy;cases hc;exact Sv (mx:=true) (by simpa using conv3 ha) hx hy hR hE hs
   ·cases hc
  ·rename_i x y ha
   split at hc
   ·rename_i x' y' hx hy;cases hc;exact Sv (mx:=false) (by simpa using conv3 ha) hx hy hR hE hs
   ·cases hc
  ·cases hc;exact(mS hs).elim
 ·rename_i f args ats ho
  split at hc
  ·cases hc;exact absurd rfl (hnc _ _)
  ·cases hc
 ·cases hc;exact(mS hs).elim
theorem Yo{d:DOp}(hc:fS P o=some d)(hnc:∀f as,d≠.call f as)(hR:Rel h c)(hE:bY c env a)(hs:aC h env d=some (r,h')):fE P h c o a h' r:=by
 have:=QZ hc hnc hR hE hs
 unfold N1 at this
 split at this
 ·exact this
 ·exact this.toSteps1 hR
theorem Zs{d:DOp}(hc:fS P o=some d)(ht:jZ d=false)(hR:Rel h c)(hE:bY c env a)(hs:aC h env d=some (r,h')):aX P h c o a h' r:=by
 have:=QZ hc (fun f as e=>by subst e;simp[jZ]at ht) hR hE hs
 unfold N1 at this
 rw[ht]at this
 exact this
end
end Go.Dm
/-
Part 16 of "Dm": code brought into the machine's form.
-/
namespace Go.Dm
def Qj(ops:List Oper):Option (Nat×Bool)→Option (Option (Nat×Bool))
 | none=>some none
 | some (j,want)=>match ops[j]? with
  | some g=>match g.dst with
   | some t=>some (some (t,want))
   | none=>none
  | none=>none
def cZ(P:Program)(ops:List Oper)(kind:sR)(snap:Nat)(o:Oper):Option aH :=
 match fS P o,Qj ops o.guard with
 | some d,some g=>some {dst:=o.dst,op:=d,guard:=g,kind,snap,calm:=false}
 | _,_=>none
def bits(ops:List Oper):List Nat :=
 ops.foldl (fun wJ o=>wJ++[o.after.toList.foldl (fun s e=>if Region.binds .any e then s ||| 2 ^ e.on ||| wJ.getD e.on 0 else s) 0]) []
inductive Cls where
 | env|read|alloc|heap
 deriving DecidableEq,Inhabited
def DOp.cls:DOp→Cls
 | .len 2 _|.load ..|.sliceSl ..|.cap ..|.lookup ..=>.read
 | .alloc ..|.buildSlice ..=>.alloc
 | d=>if jZ d then .heap else .env
def BQ(cs:List Cls)(bs:List Nat):List Nat :=
 let r:=(List.range cs.length).foldl (fun(st:List Nat×List Nat) j =>
  match cs.getD j .env with
  | .env|.alloc=>(st.1,st.2++[j])
  | _=>(st.1++st.2.filter (fun i=>(bs.getD j 0).testBit i)++[j],st.2.filter fun i=>!(bs.getD j 0).testBit i)) ([],[])
 r.1++r.2
def Opd.tmps:Opd→List Nat
 | .t n=>[n]
 | .c _=>[]
def Pc:Option Opd→List Nat
 | none=>[]
 | some x=>x.tmps
def DOp.tmps:DOp→List Nat
 | .alloc ..|.makeMap=>[]
 | .move x|.box _ _ x|.load _ x|.nilCheck x|.un _ x|.conv _ x|.asStr x|.fieldAddr _ x|.field _ _ x|.len _ x|.cap x|.clear _ _ x|.extract x _|.makeIface _ x|.range x|.next x|.entry x|.bytesStr x=>x.tmps
 | .pick c a b=>c.tmps++a.tmps++b.tmps
 | .build _ parts=>parts.flatMap fun p=>p.2.2.tmps
 | .buildSlice _ _ _ _ parts=>parts.flatMap fun p=>p.2.tmps
 | .store _ x y|.arith _ x y|.eqb _ x y|.eqa _ _ x y|.eqn _ _ x y|.indexAddr _ x y|.indexArr _ _ x y|.index _ _ _ x y|.indexStr x y
 | .append _ _ _ x y|.appendZ _ _ _ _ x y|.appendS _ _ _ x y|.copy _ x y|.makeSlice _ _ _ _ x y|.minmax _ x y|.lookup _ _ _ x y|.delete _ x y=>x.tmps++y.tmps
 | .mapUpdate _ x y z=>x.tmps++y.tmps++z.tmps
 | .sliceStr x lo hi|.sliceSl _ x lo hi=>x.tmps++Pc lo++Pc hi
 | .slice3 x lo hi mx=>x.tmps++lo.tmps++hi.tmps++mx.tmps
 | .makeFunc _ l=>l.flatMap Opd.tmps
 | .call f as=>f.tmps++as.flatMap Opd.tmps
def aH.reads(o:aH):List Nat:=o.op.tmps++(match o.guard with|some (t,_)=>[t]|none=>[])
def T0(x y:aH):Bool :=
 (match x.dst with|some d=>y.reads.contains d || y.dst == some d|none=>false) ||
 (match y.dst with|some d=>x.reads.contains d|none=>false)
def Vo(x y:aH):Bool :=
 !T0 x y &&
 match x.op.cls,y.op.cls with
 | .env,_|_,.env=>true
 | _,.alloc=>true
 | .alloc,.read=>true
 | .alloc,.heap=>false
 | .heap,.heap=>false
 | .read,.read=>true
 | .heap,.read=>true
 | .read,.heap=>true
def nO(d:aH):Bool :=
 match d.op.cls,d.kind with
 | .env,.read|.read,.read|.alloc,.create|.heap,.create|.heap,.write=>true
 | _,_=>false
def vB(b:Bool)(rp:Nat)(x y:aH):Bool :=
 (b || Vo x y) && (x.dst.isNone || x.dst != y.dst) &&
 (!(y.op.cls == .read && x.kind != .read) || (if rp<y.snap then b else x.op.cls == .alloc || (!b && x.kind == .create && decide (y.snap≤x.snap)))) &&
 (!(x.op.cls == .read && y.op.cls == .heap) || b || (y.kind == .create && decide (x.snap≤y.snap))) &&
 (!(x.calm && y.op.cls == .heap) || b)
def mF(bs:List Nat)(j i:Nat):Bool:=(bs.getD j 0).testBit i
def Ch(ds:List (Nat×aH))(p:Nat):Nat:=((ds.take p).filter fun x=>x.2.kind != .read).length
def JZ(ops:List Oper)(ds:List (Nat×aH))(bs:List Nat):Bool :=
 ops.zipIdx.all (fun x=>x.1.after.toList.all fun e=>!Region.binds .any e || (mF bs x.2 e.on && decide (e.on<x.2))) &&
 ops.zipIdx.all (fun x=>(List.range ops.length).all fun i=>!mF bs x.2 i || x.1.after.toList.any fun e=>Region.binds .any e && (e.on == i || mF bs e.on i)) &&
 (List.range ops.length).all (fun i=>ds.any fun x=>x.1 == i) &&
 ds.all (fun x=>nO x.2) &&
 ds.zipIdx.all (fun y=>(ds.take y.2).zipIdx.all fun x=>x.1.1 != y.1.1 && !mF bs x.1.1 y.1.1 && vB (mF bs y.1.1 x.1.1) (Ch ds x.2) x.1.2 y.1.2)
def FY(cs:List Cls)(ord:List Nat)(b:Nat):Nat :=
 ((ord.filter fun i=>cs.getD i .env == .heap || cs.getD i .env == .alloc).takeWhile fun i=>b.testBit i).length
def E7(cs:List Cls)(bs:List Nat)(j:Nat):sR :=
 match cs.getD j .env with
 | .env|.read=>.read
 | .alloc=>.create
 | .heap=>if(List.range cs.length).all fun i=>cs.getD i .env != .read || (bs.getD j 0).testBit i || (bs.getD i 0).testBit j then .write else .create
def v9(cs:List Cls)(ord:List Nat)(bs:List Nat)(j:Nat):Nat :=
 (List.range cs.length).foldl (fun s i=>if cs.getD i .env == .read && !(bs.getD j 0).testBit i && !(bs.getD i 0).testBit j then max s (FY cs ord (bs.getD i 0))else s) 0
def XJ(dops:List DOp)(cs:List Cls)(bs:List Nat)(i:Nat):Bool :=
 cs.getD i .env == .read &&
 ((List.range cs.length).any fun j=>(match dops[j]? with|some (.store ..)=>true|_=>false) && E7 cs bs j == .create) &&
 (List.range cs.length).all fun j=>cs.getD j .env != .heap || (bs.getD j 0).testBit i || (bs.getD i 0).testBit j
def fD(P:Program)(ops:List Oper)(draw:Bool):Option aI :=
 if draw then
  match ops.mapM (fS P)with
  | none=>none
  | some dops =>
   let bs:=bits ops
   let cs:=dops.map DOp.cls
   let ord:=BQ cs bs
   match ord.mapM (fun i=>match ops[i]? with
    | some o=>(cZ P ops (E7 cs bs i) (if E7 cs bs i=sR.create then v9 cs ord bs i else FY cs ord (bs.getD i 0)) o).map fun(d:aH)=>(i,({d with calm:=XJ dops cs bs i}:aH))
    | none=>none)with
   | some ds=>if JZ ops ds bs then some (.draw (ds.map (·.2)))else none
   | none=>none
 else match ops.mapM (cZ P ops .write 0)with
  | some ds=>some (.region ds)
  | none=>none
def Ph:aI→Bool
 | .walk ..=>false
 | _=>true
def OZ:DOp→Bool
 | .move (.c _)=>true
 | _=>false
def C7(ops:List aH):List (Nat×Nat):=ops.flatMap fun o=>o.reads.map (fun t=>(0,t))++(match o.dst with|some d=>[(if OZ o.op then 2 else 1,d)]|none=>[])
def aI.occ:aI→List (Nat×Nat)
 | .seq a b=>a.occ++b.occ
 | .cond c a b=>c.tmps.map (fun t=>(0,t))++(a.occ++b.occ)
 | .block _ b|.loop b=>b.occ
 | .region ops|.draw ops=>C7 ops
 | .walk x it nx ok en _ _ _ ops b=>x.tmps.map (fun t=>(0,t))++([(1,it),(1,nx),(1,ok),(1,en)]++(C7 ops++b.occ))
 | _=>[]
def OW(l:List (Nat×Nat)):List Nat :=
 let st:=l.foldl (fun(st:List Nat×List Nat) o=>if st.1.contains o.2 then st else(o.2::st.1,if o.1=0 then st.2 else o.2::st.2)) ([],[])
 st.2.filter fun t=>l.any fun o=>o.1 == 1 && o.2 == t
def uQ:aI→aI→Option aI
 | .region ds,.block X (.loop (.seq (.region [⟨some nx,.next (.t it),none,_,_,_⟩,⟨some ok,.extract (.t nx') 0,none,_,_,_⟩]) (.seq (.cond (.t ok') .skip (.exit X')) (.block Y (.seq (.region (⟨some en,.entry (.t it'),none,_,_,_⟩::ops)) b))))) =>
  match ds.getLast? with
  | some ⟨some it2,.range x,none,_,_,_⟩ =>
   if(it2=it∧it'=it∧nx'=nx∧ok'=ok∧X'=X)∧Ph b=true∧it≠nx∧it≠ok then
    some (.seq (.region ds.dropLast) (.walk x it nx ok en X Y (it::nx::ok::en::OW ((1,en)::(C7 ops++b.occ))) ops b))else none
  | _=>none
 | _,_=>none
def Ha(a b:aI):aI:=(uQ a b).getD (.seq a b)
def bP(P:Program):Code→Option aI
 | .skip=>some .skip
 | .seq a b=>match bP P a,bP P b with|some a,some b=>some (Ha a b)|_,_=>none
 | .cond c a b=>match opd c,bP P a,bP P b with|some c,some a,some b=>some (.cond c a b)|_,_,_=>none
 | .block id b=>match bP P b with|some b=>some (.block id b)|none=>none
 | .loop b=>match bP P b with|some b=>some (.loop b)|none=>none
 | .exit id=>some (.exit id)
 | .ret=>some .ret
 | .region _ ops draw=>fD P ops.toList draw
 | _=>none
def Bj(P:Program):ResultVar→Option Lb
 | .tmp t=>some (.t t)
 | .cell a t=>match nOf P t with|some n=>some (.cell a n)|none=>none
def aD(P:Program)(fn:Func)(mode:SC):Option aL :=
 match fn.body with
 | some body=>match bP P body,fn.results.toList.mapM (Bj P)with
  | some b, some rs => if fn.name ≠ "runtime.NumGoroutine" then some { ntmps := fn.ntmps, results := rs, body := b, mode } else none
  | _,_=>none
 | none=>none
end Go.Dm
/-
Part 17 of "Dm": what an operation looks at, and what it leaves as it was.
-/
namespace Go.Dm
def jY(ts:List Nat)(env aU:Env):Prop:=∀t,t∈ts→(env[t]?).getD .unk=(aU[t]?).getD .unk
theorem jY.app{ts us:List Nat}{env aU:Env}(h:jY (ts++us) env aU):jY ts env aU∧jY us env aU :=
 ⟨fun t ht=>h t (List.mem_append_left _ ht),fun t ht=>h t (List.mem_append_right _ ht)⟩
theorem jY.opd{x:Opd}{env aU:Env}(h:jY x.tmps env aU):x.eval env=x.eval aU:=by
 cases x with
 | t n=>exact h n (by simp[Opd.tmps])
 | c v=>rfl
theorem jY.flat{α:Type}{l:List α}{f:α→List Nat}{env aU:Env}(h:jY (l.flatMap f) env aU):∀x,x∈l→jY (f x) env aU :=
 fun x hx t ht=>h t (List.mem_flatMap.2 ⟨x,hx,ht⟩)
theorem jY.bound{x:Option Opd}{env aU:Env}(h:jY (Pc x) env aU)(d l:Nat):bound env x d l=bound aU x d l:=by
 cases x with
 | none=>rfl
 | some x=>simp only[Dm.bound,jY.opd (x:=x) h]
theorem zR{d:DOp}{h:aA}{env aU:Env}(hd:jY d.tmps env aU):aC h env d=aC h aU d:=by
 cases d<;>simp only[DOp.tmps]at hd
 case makeMap=>rfl
 case alloc=>rfl
 case call=>rfl
 case pick c a b =>
  obtain⟨hd,h3⟩:=hd.app
  obtain⟨h1,h2⟩:=hd.app
  simp only[aC,h1.opd,h2.opd,h3.opd]
 case mapUpdate q m k x =>
  obtain⟨hd,h3⟩:=hd.app
  obtain⟨h1,h2⟩:=hd.app
  simp only[aC,h1.opd,h2.opd,h3.opd]
 case build z parts =>
  have:parts.map (fun p=>(p.1,p.2.1,p.2.2.eval env))=parts.map (fun p=>(p.1,p.2.1,p.2.2.eval aU)) :=
   List.map_congr_left fun p hp=>by rw[(hd.flat p hp).opd]
  simp only[aC,this]
 case buildSlice e s z n parts =>
  have:parts.map (fun p=>(p.1,p.2.eval env))=parts.map (fun p=>(p.1,p.2.eval aU)) :=
   List.map_congr_left fun p hp=>by rw[(hd.flat p hp).opd]
  simp only[aC,this]
 case makeFunc f l =>
  have:l.map (Opd.eval env)=l.map (Opd.eval aU):=List.map_congr_left fun p hp=>(hd.flat p hp).opd
  simp only[aC,this]
 case sliceStr x lo hi =>
  obtain⟨hd,h3⟩:=hd.app
  obtain⟨h1,h2⟩:=hd.app
  simp only[aC,h1.opd,h2.bound,h3.bound]
 case slice3 x lo hi mx =>
  obtain⟨hd,h4⟩:=hd.app
  obtain⟨hd,h3⟩:=hd.app
  obtain⟨h1,h2⟩:=hd.app
  have e:∀(y:Opd) d l,jY y.tmps env aU→bound env (some y) d l=bound aU (some y) d l:=fun y d l hy=>by simp only[Dm.bound,hy.opd]
  simp only[aC,h1.opd,e lo _ _ h2,e hi _ _ h3,e mx _ _ h4]
 case sliceSl sz x lo hi =>
  obtain⟨hd,h3⟩:=hd.app
  obtain⟨h1,h2⟩:=hd.app
  simp only[aC,h1.opd,h2.bound,h3.bound]
 all_goals first
  | simp only[aC,hd.opd]
  | (obtain⟨h1,h2⟩:=hd.app;simp only[aC,h1.opd,h2.opd])
theorem vC{d:DOp}{call:Nat→List DV→aA→Option (DV×aA)}{h:aA}{env aU:Env}(hd:jY d.tmps env aU):bC call d env h=bC call d aU h:=by
 cases d
 case call f as =>
  simp only[DOp.tmps]at hd
  obtain⟨h1,h2⟩:=hd.app
  have:as.map (Opd.eval env)=as.map (Opd.eval aU):=List.map_congr_left fun p hp=>(h2.flat p hp).opd
  simp only[bC,h1.opd,this]
 all_goals exact zR (h:=h) hd
theorem Nd{d:DOp}{env aU:Env}(hd:jY d.tmps env aU):bM env d=bM aU d:=by
 cases d<;>simp only[DOp.tmps]at hd<;>try rfl
 case load n a=>simp only[bM,hd.opd]
 case cap x=>simp only[bM,hd.opd]
 case len k x=>simp only[bM,hd.opd]
 case sliceSl sz x lo hi =>
  obtain⟨hd,h3⟩:=hd.app
  obtain⟨h1,h2⟩:=hd.app
  simp only[bM,h1.opd]
 case lookup q z ok m k =>
  obtain⟨h1,h2⟩:=hd.app
  simp only[bM,h1.opd]
theorem D6{d:DOp}{env aU:Env}(hd:jY d.tmps env aU):mark env d=mark aU d:=by
 have ht:=Nd hd
 cases d<;>simp only[mark,ht]
 case load n a=>simp only[DOp.tmps]at hd;simp only[hd.opd]
theorem Us{d:DOp}{env:Env}{r:Nat×jP}(h:mark env d=some r):bM env d=some r.1:=by
 cases d<;>simp only[mark,Option.map_eq_some_iff]at h
 case load n a =>
  simp only[bM]
  split at h
  ·rename_i he;cases h;first|rfl|rw[he]
  ·cases h
 all_goals (obtain⟨id,h1,h2⟩:=h;subst h2;exact h1)
theorem A9{L:cA}{o:DOp}{call:Nat→List DV→aA→Option (DV×aA)}{h:aA}{env:Env}{id:Nat}(hp:kD L env o=some id):bC call o env h=aC h env o:=by
 cases o<;>first|(simp only[kD]at hp;cases hp;done)|rfl
def El(env:Env):DOp→Option (Nat×Nat×List DV)
 | .alloc ety sz z=>some (ety,sz,[z])
 | .buildSlice ety sz z len parts=>(cW sz (List.replicate len z) (parts.map fun p=>(p.1,p.2.eval env))).map fun xs=>(ety,sz,xs)
 | _=>none
def R0(id:Nat):DOp→DV
 | .alloc _ sz _=>.ptr id sz 0 0
 | .buildSlice _ sz _ len _=>.sl id sz 0 len
 | _=>.unk
theorem D7{d:DOp}{env aU:Env}(hd:jY d.tmps env aU):El env d=El aU d:=by
 cases d<;>simp only[DOp.tmps]at hd<;>try rfl
 case buildSlice e s z n parts =>
  have:parts.map (fun p=>(p.1,p.2.eval env))=parts.map (fun p=>(p.1,p.2.eval aU)) :=
   List.map_congr_left fun p hp=>by rw[(hd.flat p hp).opd]
  simp only[El,this]
theorem sM{sz:Nat}:∀(ps:List (Nat×DV)) {xs ys:List DV},cW sz xs ps=some ys→ys.length=xs.length:=by
 intro ps
 induction ps with
 | nil=>intro xs ys h;simp only[cW]at h;cases h;rfl
 | cons p ps ih =>
  intro xs ys h
  obtain⟨i,v⟩:=p
  simp only[cW]at h
  split at h
  ·rw[ih h,List.length_set]
  ·cases h
theorem Im{d:DOp}(ha:d.cls=.alloc):(∃ ety sz z,d=.alloc ety sz z)∨∃ ety sz z len parts,d=.buildSlice ety sz z len parts:=by
 unfold DOp.cls at ha
 split at ha
 all_goals first|(cases ha;done)|exact .inl ⟨_,_,_,rfl⟩|exact .inr ⟨_,_,_,_,_,rfl⟩|skip
 split at ha<;>cases ha
theorem Dh{d:DOp}(ha:d.cls=.alloc){h h':aA}{env:Env}{v:DV}(hs:aC h env d=some (v,h')) :
  ∃ ety sz xs,El env d=some (ety,sz,xs)∧v=R0 h.n d∧h'=h.push (.arr ety sz xs (some xs.length)):=by
 rcases Im ha with⟨ety,sz,z,rfl⟩|⟨ety,sz,z,len,parts,rfl⟩
 ·simp only[aC,Option.some.injEq,Prod.mk.injEq]at hs
  obtain⟨rfl,rfl⟩:=hs
  exact⟨_,_,_,rfl,rfl,rfl⟩
 ·simp only[aC]at hs
  split at hs
  ·rename_i xs LJ
   simp only[Option.some.injEq,Prod.mk.injEq]at hs
   obtain⟨rfl,rfl⟩:=hs
   refine⟨ety,sz,xs,by simp only[El,LJ,Option.map_some],rfl,?_⟩
   have:=sM _ LJ
   rw[List.length_replicate]at this
   rw[this]
  ·cases hs
theorem Fz{d:DOp}{h h2:aA}{env:Env}{v:DV}{h':aA}(hd:d.cls=.env)(hs:aC h env d=some (v,h')):aC h2 env d=some (v,h2):=by
 cases d<;>simp only[DOp.cls,jZ]at hd<;>try (cases hd)
 case len k x =>
  have hk:k≠2:=fun e=>by subst e;cases hd
  clear hd
  simp only[aC]at hs ⊢
  cases hx:x.eval env<;>rw[hx]at hs<;>simp only at hs ⊢<;>try (cases hs)
  case map id =>
   cases hg:h.get id with
   | none=>rw[hg]at hs;cases hs
   | some o=>rw[hg]at hs;cases o<;>simp only[hk,if_false]at hs<;>cases hs
  all_goals (split at hs;(rename_i e;cases hs;simp[e]);cases hs)
 case minmax mx x y =>
  simp only[aC]at hs ⊢
  split at hs
  ·rename_i h1 h2;cases hs;simp
  ·cases hs
 all_goals (simp only[aC]at hs ⊢;repeat' split at hs)<;>simp_all
def V0(h h2:aA):Prop:=∀id o,h.get id=some o→fQ o=true→h2.get id=some o
def LD(d:DOp)(env:Env)(h h2:aA):Prop:=∀id o,bM env d=some id→h.get id=some o→fQ o=true→h2.get id=some o
theorem V0.t{h h2:aA}(hg:V0 h h2)(d:DOp)(env:Env):LD d env h h2:=fun id o _ h1 h2=>hg id o h1 h2
theorem Ut{h h2:aA}{n:Option Nat}{a v:DV}(hg:∀id sz idx off,a=.ptr id sz idx off→∀o,h.get id=some o→fQ o=true→h2.get id=some o)(hs:iW h n a=some v):iW h2 n a=some v:=by
 unfold iW at hs ⊢
 split at hs
 ·split at hs
  ·rename_i hx
   rw[hg _ _ _ _ rfl _ hx rfl];exact hs
  ·cases hs
 ·exact hs
 ·cases hs
theorem xU{d:DOp}{h h2:aA}{env:Env}{v:DV}{h':aA}(hg:LD d env h h2)(hd:jZ d=false)(hs:aC h env d=some (v,h')):aC h2 env d=some (v,h2):=by
 by_cases hc:d.cls=.env
 ·exact Fz hc hs
 cases d<;>simp only[jZ]at hd<;>try (exact Bool.noConfusion hd)
 case load n a =>
  simp only[aC]at hs ⊢
  split at hs
  ·rename_i v' hl;cases hs;rw[Ut (fun id sz idx off he o h1 h2=>hg id o (by simp only[bM,he]) h1 h2) hl]
  ·cases hs
 case sliceSl sz x lo hi =>
  simp only[aC]at hs ⊢
  split at hs
  ·(repeat' split at hs)<;>simp_all
  ·(repeat' split at hs)<;>simp_all
  ·rename_i R9
   split at hs
   ·rename_i hx
    rw[hg _ _ (by simp only[bM,R9]) hx rfl]
    (repeat' split at hs)<;>first|cases hs|skip
    rename_i h1 _ _ h2 _ _ h3
    simp only[if_pos h1,h2,h3]
   ·cases hs
  ·cases hs
 case cap x =>
  simp only[aC]at hs ⊢
  split at hs
  ·cases hs;rfl
  ·rename_i R9
   split at hs
   ·rename_i hx;rw[hg _ _ (by simp only[bM,R9]) hx rfl]
    split at hs
    ·rename_i e;cases hs;simp[e]
    ·cases hs
   ·rename_i hx;rw[hg _ _ (by simp only[bM,R9]) hx rfl]
    split at hs
    ·rename_i e;cases hs;simp[e]
    ·cases hs
   ·cases hs
  ·cases hs
 case len k x =>
  simp only[aC]at hs ⊢
  cases hx:x.eval env<;>rw[hx]at hs<;>simp only at hs ⊢<;>try (cases hs)
  case map id =>
   cases hx2:h.get id with
   | none=>rw[hx2]at hs;cases hs
   | some o =>
    rw[hx2]at hs
    cases o<;>simp only at hs<;>try (cases hs)
    rw[hg _ _ (by simp only[bM,hx]) hx2 rfl]
    split at hs
    ·rename_i e;cases hs;simp[e]
    ·cases hs
  all_goals (split at hs;(rename_i e;cases hs;simp[e]);cases hs)
 case lookup q z ok m k =>
  simp only[aC]at hs ⊢
  cases hm:m.eval env<;>rw[hm]at hs<;>simp only at hs ⊢<;>try (cases hs)
  ·(repeat' split at hs)<;>simp_all
  ·rename_i id
   cases hx:h.get id with
   | none=>rw[hx]at hs;cases hs
   | some o =>
    rw[hx]at hs
    cases o<;>simp only at hs<;>try (cases hs)
    rw[hg _ _ (by simp only[bM,hm]) hx rfl]
    (repeat' split at hs)<;>simp_all
 all_goals exact absurd rfl hc
def jG(r:Nat×jP)(g h:aA):Prop :=
 match r.2 with
 | none=>h.get r.1=g.get r.1
 | some (n,sz,i,o)=>iW h n (.ptr r.1 sz i o)=iW g n (.ptr r.1 sz i o)
theorem jG.of_get{r:Nat×jP}{g h:aA}(e:h.get r.1=g.get r.1):jG r g h:=by
 unfold jG
 split
 ·exact e
 ·simp only[iW,e]
theorem jG.trans{r:Nat×jP}{a b c:aA}(h1:jG r a b)(h2:jG r b c):jG r a c:=by
 unfold jG at h1 h2 ⊢
 split<;>simp_all
theorem Jp{d:DOp}{h h2:aA}{env:Env}{v:DV}{h':aA}(hg:∀r,mark env d=some r→(∃ o,h.get r.1=some o)→jG r h h2)(hd:jZ d=false)(hs:aC h env d=some (v,h')):aC h2 env d=some (v,h2):=by
 by_cases hld:∃ n a,d=.load n a
 ·obtain⟨n,a,rfl⟩:=hld
  simp only[aC]at hs ⊢
  split at hs
  ·rename_i v' hl
   cases hs
   have:iW h2 n (a.eval env)=some v:=by
    cases hv:a.eval env<;>rw[hv]at hl<;>try (simp only[iW]at hl;cases hl;done)
    ·rename_i id sz i o
     have Py:∃ ob,h.get id=some ob:=by
      unfold iW at hl
      simp only at hl
      split at hl
      ·exact⟨_,by assumption⟩
      ·cases hl
     have:=hg (id,some (n,sz,i,o)) (by simp only[mark,hv]) Py
     unfold jG at this
     simp only at this
     rw[this];exact hl
    ·exact hl
   rw[this]
  ·cases hs
 ·refine xU (fun id ob htgt nQ _=>?_) hd hs
  have hm:mark env d=some (id,none):=by
   cases d<;>simp only[mark,htgt,Option.map_some]
   exact absurd ⟨_,_,rfl⟩ hld
  have:=hg _ hm ⟨ob,nQ⟩
  unfold jG at this
  simp only at this
  rw[this];exact nQ
theorem Oc{d:DOp}{h h2:aA}{env:Env}{v:DV}{h':aA}(hg:V0 h h2)(hd:jZ d=false)(hs:aC h env d=some (v,h')):aC h2 env d=some (v,h2) :=
 xU (hg.t d env) hd hs
structure dU(h h':aA):Prop where
 lim:h'.lim=h.lim
 n:h.n≤h'.n
 get:∀id,id<h.lim→h'.get id=h.get id
theorem dU.refl(h:aA):dU h h:=⟨rfl,Nat.le_refl _,fun _ _=>rfl⟩
theorem dU.trans{a b c:aA}(h:dU a b)(g:dU b c):dU a c :=
 ⟨g.lim.trans h.lim,Nat.le_trans h.n g.n,fun id hi=>(g.get id (by rw[h.lim];exact hi)).trans (h.get id hi)⟩
theorem dU.push{h:aA}(hl:h.lim≤h.n)(o:DO):dU h (h.push o):=⟨rfl,Nat.le_succ _,fun id hi=>aG (by omega)⟩
theorem dU.set{h:aA}{id:Nat}{ob:DO}(hg:h.get id=some ob)(hl:h.lim≤id)(o:DO):dU h (h.set id o) :=
 ⟨rfl,Nat.le_refl _,fun k hk=>aN (cY hg) (by omega)⟩
theorem sY{h h':aA}{n:Nat}{a x:DV}(hs:hU h n a x=some h'):dU h h':=by
 unfold hU at hs
 split at hs
 ·split at hs
  ·rename_i hx
   split at hs
   ·rename_i hc
    split at hs
    ·split at hs
     ·cases hs;exact .set hx hc.2.1 _
     ·cases hs
    ·cases hs
   ·cases hs
  ·cases hs
 ·cases hs
theorem rO{h h':aA}(hl:h.lim≤h.n){ety sz bytes:Nat}{s v:DV}{ys:List DV}(hs:bF h ety sz bytes s ys=some (v,h')):dU h h':=by
 unfold bF at hs
 split at hs
 ·split at hs
  ·cases hs;exact .refl _
  ·split at hs
   ·cases hs;exact .push hl _
   ·cases hs
 ·split at hs
  ·cases hs;exact .refl _
  ·split at hs
   ·rename_i hx
    split at hs
    ·split at hs
     ·split at hs
      ·rename_i bJ;cases hs;exact .set hx bJ _
      ·cases hs
     ·split at hs
      ·cases hs;exact .push hl _
      ·split at hs
       ·rename_i bJ;cases hs;exact(dU.set hx bJ _).trans (.push (by exact hl) _)
       ·cases hs
    ·cases hs
   ·cases hs
 ·cases hs
theorem Ee{h h':aA}{sz:Nat}{d v:DV}{ys:List DV}(hs:wA h sz d ys=some (v,h')):dU h h':=by
 unfold wA at hs
 split at hs
 ·cases hs;exact .refl _
 ·split at hs
  ·rename_i hx
   split at hs
   ·rename_i hc;cases hs;exact .set hx hc.2.2.2 _
   ·cases hs
  ·cases hs
 ·cases hs
theorem zQ{d:DOp}{h h':aA}(hl:h.lim≤h.n){env:Env}{v:DV}(hs:aC h env d=some (v,h')):dU h h':=by
 by_cases ht:jZ d=false
 ·have PN:V0 h h:=fun _ _ hx _=>hx
  have:=Oc PN ht hs
  rw[hs]at this
  cases this
  exact .refl _
 cases d<;>simp only[jZ,not_true_eq_false]at ht<;>simp only[aC]at hs
 case alloc=>cases hs;exact .push hl _
 case box=>split at hs<;>cases hs;exact .push hl _
 case buildSlice=>split at hs<;>cases hs;exact .push hl _
 case store =>
  split at hs
  ·rename_i h2 cS;cases hs;exact sY cS
  ·cases hs
 case append =>
  split at hs
  ·exact rO hl hs
  ·cases hs
 case appendZ =>
  split at hs
  ·split at hs
   ·exact rO hl hs
   ·cases hs
  ·cases hs
 case copy =>
  split at hs
  ·exact Ee hs
  ·cases hs
 case clear =>
  split at hs
  ·cases hs;exact .refl _
  ·cases hs;exact .refl _
  ·split at hs
   ·cases hs;exact .refl _
   ·split at hs
    ·rename_i hcp;cases hs;exact Ee hcp
    ·cases hs
  ·cases hs
 case makeSlice =>
  split at hs
  ·split at hs
   ·cases hs;exact .push hl _
   ·cases hs
  ·cases hs
 case makeMap=>cases hs;exact .push hl _
 case mapUpdate =>
  split at hs
  ·split at hs
   ·rename_i hx
    split at hs
    ·rename_i hc
     split at hs
     ·cases hs;exact .set hx hc.1 _
     ·cases hs;exact .set hx hc.1 _
     ·cases hs
    ·cases hs
   ·cases hs
  ·cases hs
 case delete =>
  split at hs
  ·split at hs
   ·rename_i hx
    split at hs
    ·rename_i hc
     split at hs
     ·cases hs;exact .set hx hc.1 _
     ·cases hs;exact .set hx hc.1 _
     ·cases hs
    ·cases hs
   ·cases hs
  ·cases hs
 case appendS =>
  split at hs
  ·exact rO hl hs
  ·cases hs
 case range=>cases hs
 case next=>cases hs
 case entry=>cases hs
 case bytesStr =>
  repeat' (split at hs)
  all_goals first|cases hs;done|(cases hs;exact .refl _)
 case call=>cases hs
 all_goals exact absurd trivial ht
end Go.Dm
/-
Part 18 of "Dm": runs leave alone what lies dR the limit.
-/
namespace Go.Dm
abbrev gY:=Nat→List DV→aA→Option (DV×aA)
def dC(call:gY):Prop:=∀f args h v h',h.lim≤h.n→call f args h=some (v,h')→dU h h'
theorem dU.lim_le{h h':aA}(k:dU h h')(hl:h.lim≤h.n):h'.lim≤h'.n:=by rw[k.lim];exact Nat.le_trans hl k.n
theorem iV{call:gY}(hc:dC call){d:DOp}{env:Env}{h h':aA}{v:DV}(hl:h.lim≤h.n)(hs:bC call d env h=some (v,h')):dU h h':=by
 unfold bC at hs
 split at hs
 ·split at hs
  ·exact hc _ _ _ _ _ hl hs
  ·cases hs
 ·exact zQ hl hs
theorem Ab{call:gY}(hc:dC call):∀(ops:List aH) (env aU:Env) (h h':aA),h.lim≤h.n→eM call ops env h=some (aU,h')→dU h h':=by
 intro ops
 induction ops with
 | nil=>intro env aU h h' _ hs;cases hs;exact .refl _
 | cons o r ih =>
  intro env aU h h' hl hs
  simp only[eM]at hs
  split at hs
  ·split at hs
   ·rename_i v h1 h2
    have k:=iV hc hl h2
    exact k.trans (ih _ _ _ _ (k.lim_le hl) hs)
   ·cases hs
  ·exact ih _ _ _ _ hl hs
  ·cases hs
theorem tM{call:gY}(hc:dC call){l:Nat}{d:DOp}{env:Env}{h h':aA}{v:DV}(hl:h.lim≤h.n)(RO:l≤h.n)(hs:lL call l d env h=some (v,h')) :
  dU h h'∧∀id,id<l→h'.get id=h.get id:=by
 unfold lL at hs
 split at hs
 ·rename_i v1 h1 h2
  cases hs
  have k:=iV hc (h:={h with lim:=max l h.lim}) (Nat.max_le.2 ⟨RO,hl⟩) h2
  exact⟨⟨rfl,k.n,fun id hi=>k.get id (Nat.lt_of_lt_of_le hi (Nat.le_max_right _ _))⟩,fun id hi=>k.get id (Nat.lt_of_lt_of_le hi (Nat.le_max_left _ _))⟩
 ·cases hs
theorem Ij{call:gY}(hc:dC call){l r:Nat}{L L':cA}{d:DOp}{env:Env}{h h':aA}{v:DV}(hl:h.lim≤h.n)(RO:l≤h.n)(hs:cI call l r L d env h=some (v,h',L')):dU h h':=by
 unfold cI at hs
 split at hs
 ·split at hs
  ·rename_i h2;cases hs;exact zQ hl h2
  ·cases hs
 ·split at hs
  ·unfold lF at hs
   split at hs
   ·split at hs
    ·rename_i h2
     split at hs
     ·cases hs;exact iV hc hl h2
     ·cases hs
    ·cases hs
   ·cases hs
  ·split at hs
   ·rename_i h2;cases hs;exact(tM hc hl RO h2).1
   ·cases hs
theorem Ys{hs:List aA}{k:Nat}{h:aA}(he:hZ hs k=some h):h∈hs:=by
 unfold hZ at he
 split at he
 ·exact List.mem_of_getElem? he
 ·cases he
def U0:List aA→Prop
 | []=>True
 | h::hs=>h.lim≤h.n∧(∀g,g∈hs→dU g h)∧U0 hs
theorem Jt{call:gY}(hc:dC call):∀(ops:List aH) (env aU:Env) (hs:List aA) (L:cA) (h':aA),U0 hs→dL call ops env hs L=some (aU,h')→∀g,g∈hs→dU g h':=by
 intro ops
 induction ops with
 | nil =>
  intro env aU hs L h' cS he g hg
  cases hs with
  | nil=>cases he
  | cons h hs =>
   cases he
   rcases List.mem_cons.1 hg with rfl|hg
   ·exact .refl _
   ·exact cS.2.1 g hg
 | cons o r ih =>
  intro env aU hs L h' cS he g hg
  cases hs with
  | nil=>cases he
  | cons h hs =>
   have next:∀h1,dU h h1→U0 (h1::h::hs):=fun h1 k=>⟨k.lim_le cS.1,fun g hg=>by
    rcases List.mem_cons.1 hg with rfl|hg
    ·exact k
    ·exact(cS.2.1 g hg).trans k,cS⟩
   have dR:∀g,g∈h::hs→g.n≤h.n:=fun g hg=>by
    rcases List.mem_cons.1 hg with rfl|hg
    ·exact Nat.le_refl _
    ·exact(cS.2.1 g hg).n
   simp only[dL]at he
   split at he
   ·cases he
   ·split at he
    ·split at he
     ·split at he
      ·split at he
       ·exact ih _ _ _ _ _ cS he g hg
       ·cases he
      ·cases he
     ·cases he
    ·split at he
     ·rename_i v h1 h2
      exact ih _ _ _ _ _ (next h1 (iV hc cS.1 h2)) he g (List.mem_cons_of_mem _ hg)
     ·cases he
    ·split at he
     ·rename_i h0 PB
      split at he
      ·rename_i v h1 L1 h2
       exact ih _ _ _ _ _ (next h1 (Ij hc cS.1 (dR h0 (Ys PB)) h2)) he g (List.mem_cons_of_mem _ hg)
      ·cases he
     ·cases he
   ·split at he
    ·exact ih _ _ _ _ _ cS he g hg
    ·exact ih _ _ _ _ _ (next h (.refl _)) he g (List.mem_cons_of_mem _ hg)
def Bp(run:aI→Env→aA→Res):Prop:=∀c env h e aU h',h.lim≤h.n→run c env h=.ok e aU h'→dU h h'
def xJ(D:bU):Prop:=∀f hk,D.hook f=some hk→∀h args v h',h.lim≤h.n→hk h args=some (v,h')→dU h h'
theorem tQ{h h':aA}{d d':DV}(hf:gS h d=some (d',h')):dU h h':=by
 cases d with
 | sl id sz off len =>
  simp only[gS]at hf
  split at hf
  ·rename_i hg
   split at hf
   ·rename_i bS;cases hf;exact dU.set hg bS.2.1 _
   ·cases hf
  ·cases hf
 | _=>simp only[gS]at hf;cases hf;exact .refl _
theorem Hf{f:aA→DV→Option (DV×aA)}(hk:∀{h h':aA} {d d':DV},f h d=some (d',h')→dU h h'):∀{ds ds':List DV} {h h':aA},oC f h ds=some (ds',h')→dU h h':=by
 intro ds
 induction ds with
 | nil=>intro ds' h h' he;simp only[oC]at he;cases he;exact .refl _
 | cons d r ih =>
  intro ds' h h' he
  simp only[oC]at he
  split at he
  ·rename_i e1
   split at he
   ·rename_i e2;cases he;exact(hk e1).trans (ih e2)
   ·cases he
  ·cases he
theorem Hr{h:aA}{d:DV}(hd:∀cs,d≠.agg cs):fB h d=gS h d:=by
 cases d<;>first|rfl|exact absurd rfl (hd _)
theorem Kk{h h':aA}{d d':DV}(hf:fB h d=some (d',h')):dU h h':=by
 cases d with
 | agg cs =>
  simp only[fB]at hf
  split at hf
  ·rename_i e1;cases hf;exact Hf (fun e=>tQ e) e1
  ·cases hf
 | _=>rw[Hr (by intro cs e;cases e)]at hf;exact tQ hf
theorem qW{run:aI→Env→aA→Res}{D:bU}(hh:xJ D)(hr:Bp run):dC (enter run D):=by
 intro f args h v h' hl he
 unfold enter at he
 split at he
 ·rename_i hk oN;exact hh _ _ oN _ _ _ _ hl he
 ·split at he
  ·cases he
  ·rename_i df hdf
   have go:∀args (h h':aA) v,h.lim≤h.n→(match run df.body (args++List.replicate (df.ntmps-args.length) bH) h with
     | .ok (.exit _) _ _=>none
     | .ok _ env h'=>match aT h' env df.results with
      | some v=>some (v,h')
      | none=>none
     | .fail=>none)=some (v,h')→dU h h':=by
    intro args h h' v hl he
    split at he
    ·cases he
    ·rename_i h2
     split at he
     ·cases he;exact hr _ _ _ _ _ _ hl h2
     ·cases he
    ·cases he
   simp only at he
   split at he
   ·exact go _ _ _ _ hl he
   ·split at he
    ·rename_i v1 h1 h2
     cases he
     have k:=go _ {h with lim:=h.n} _ _ (Nat.le_refl _) h2
     exact⟨rfl,k.n,fun id hi=>k.get id (Nat.lt_of_lt_of_le hi hl)⟩
    ·cases he
   ·split at he
    ·split at he
     ·split at he
      ·split at he
       ·cases he;exact .refl _
       ·cases he
      ·cases he
     ·cases he
    ·cases he
   ·split at he
    ·split at he
     ·rename_i Qh
      split at he
      ·rename_i bS
       split at he
       ·split at he
        ·cases he
         exact(dU.set Qh bS.2 _).trans (.push (by exact hl) _)
        ·cases he
       ·cases he
      ·cases he
     ·exact go _ _ _ _ hl he
    ·exact go _ _ _ _ hl he
   ·split at he
    ·rename_i as h1 ea
     split at he
     ·split at he
      ·split at he
       ·split at he
        ·cases he;exact Hf (fun e=>Kk e) ea
        ·cases he
       ·cases he
      ·cases he
     ·cases he
    ·cases he
theorem Ot{call:gY}{run:aI→Env→aA→Res}(hc:dC call)(hr:Bp run){it nx ok en X Y p:Nat}{ops:List aH}{b:aI}:∀(l:List (DV×DV)) {env:Env} {h:aA} {e:Ex} {aU:Env} {h':aA},h.lim≤h.n →
  rounds call run it nx ok en X Y p ops b l env h=.ok e aU h'→dU h h':=by
 intro l
 induction l with
 | nil =>
  intro env h e aU h' hl he
  simp only[rounds]at he
  split at he
  ·split at he
   ·cases he;exact .refl _
   ·cases he
  ·cases he
 | cons x r ih =>
  intro env h e aU h' hl he
  obtain⟨k,v⟩:=x
  simp only[rounds]at he
  split at he
  ·split at he
   ·split at he
    ·rename_i env1 h1 h2
     have k1:=Ab hc _ _ _ _ _ hl h2
     split at he
     ·rename_i h3
      have k2:=k1.trans (hr _ _ _ _ _ _ (k1.lim_le hl) h3)
      exact k2.trans (ih (k2.lim_le hl) he)
     ·rename_i h3
      have k2:=k1.trans (hr _ _ _ _ _ _ (k1.lim_le hl) h3)
      split at he
      ·exact k2.trans (ih (k2.lim_le hl) he)
      ·split at he
       ·cases he;exact k2
       ·cases he;exact k2
     ·exact k1.trans (hr _ _ _ _ _ _ (k1.lim_le hl) he)
    ·cases he
   ·cases he
  ·cases he
theorem Ba{h1:aA}{n lim id:Nat}(hn:n≤h1.n)(eF:id<n):({objs:=h1.objs.drop (h1.n-n),n:=n,lim:=lim}:aA).get id=h1.get id:=by
 unfold aA.get
 simp only[eF,if_true]
 rw[if_pos (by omega),List.getElem?_drop]
 congr 1
 omega
theorem GB{h:aA}{m id:Nat}{es:List (DV×DV)}(hg:h.get m=some (.mp es))(eF:id<h.n)(cK:id≠m):(rY h m).get id=h.get id:=by
 unfold rY
 rw[aG (by exact eF),aN (cY hg) cK]
theorem Qo{h:aA}{v:DV}{m:Nat}{es:List (DV×DV)}(he:sO h v=some (m,es)):v=.map m∧h.get m=some (.mp es):=by
 unfold sO at he
 split at he
 ·split at he
  ·rename_i hg;cases he;exact⟨rfl,hg⟩
  ·cases he
 ·cases he
theorem My{call:gY}{run:aI→Env→aA→Res}(hc:dC call)(hr:Bp run){it nx ok en X Y m:Nat}{kl:List Nat}{ops:List aH}{b:aI}{es p:List (DV×DV)}{env:Env}{h:aA}{e:Ex}{aU:Env}{h':aA}(hl:h.lim≤h.n)
  (hg:h.get m=some (.mp es)) (he:pK call run it nx ok en X Y kl ops b m es env h p=.ok e aU h'):dU h h':=by
 unfold pK tZ at he
 split at he
 ·rename_i e1 env1 h1 h2
  split at he
  ·rename_i bS
   cases he
   simp only[Bool.and_eq_true,Nat.ble_eq]at bS
   have bJ:(rY h m).lim≤(rY h m).n:=Nat.le_succ_of_le hl
   have k:=Ot hc hr _ bJ h2
   refine⟨rfl,Nat.le_refl _,fun id eF=>?_⟩
   have G4:id<h.n:=Nat.lt_of_lt_of_le eF hl
   by_cases cK:id=m
   ·subst cK
    rw[hg]
    unfold aA.get aA.set
    simp only[G4,if_true]
    rw[List.getElem?_set]
    have cC:=k.n
    have hn1:(rY h id).n=h.n+1:=rfl
    simp only[if_true]
    split
    ·rfl
    ·rename_i aY
     exfalso
     have hk:=k.get id eF
     have:(rY h id).get id=some .dead:=by
      unfold rY
      rw[aG (by exact G4)]
      unfold aA.get at hg ⊢
      simp only[aA.set,G4,if_true]at hg ⊢
      have:=(List.getElem?_eq_some_iff.1 hg).1
      simp[List.getElem?_set,this]
     rw[this]at hk
     have Jh:({objs:=h1.objs.drop (h1.n-h.n),n:=h.n,lim:=h.lim}:aA).get id=some .dead:=by rw[Ba bS.1 G4];exact hk
     unfold aA.get at Jh
     simp only[G4,if_true]at Jh
     exact aY (List.getElem?_eq_some_iff.1 Jh).1
   ·exact(aN (h:={objs:=h1.objs.drop (h1.n-h.n),n:=h.n,lim:=h.lim}) (show m<h.n from cY hg) cK).trans ((Ba bS.1 G4).trans ((k.get id eF).trans (GB hg G4 cK)))
  ·cases he
 ·cases he
theorem Lc{call:gY}{run:aI→Env→aA→Res}{it nx ok en X Y:Nat}{kl:List Nat}{ops:List aH}{b:aI}{env:Env}{h:aA}{v:DV}{e:Ex}{aU:Env}{h':aA}(he:Fq call run it nx ok en X Y kl ops b env h (sO h v)=.ok e aU h') :
  ∃ m es,v=.map m∧h.get m=some (.mp es)∧pK call run it nx ok en X Y kl ops b m es env h es=.ok e aU h'∧∀p∈Lt es,CL e aU h' (pK call run it nx ok en X Y kl ops b m es env h p)=true:=by
 cases hx:sO h v with
 | none=>rw[hx]at he;cases he
 | some x =>
  obtain⟨m,es⟩:=x
  rw[hx]at he
  simp only[Fq]at he
  obtain⟨h1,h2⟩:=Qo hx
  split at he
  ·rename_i h3
   split at he
   ·rename_i h4
    cases he
    exact⟨m,es,h1,h2,h3,fun p hp=>List.all_eq_true.1 h4 p hp⟩
   ·cases he
  ·cases he
theorem Ib{D:bU}(hh:xJ D):∀n,Bp (dB D n):=by
 intro n
 induction n with
 | zero=>intro c env h e aU h' _ he;cases he
 | succ n ih =>
  intro c env h e aU h' hl he
  cases c<;>simp only[dB]at he
  case skip=>cases he;exact .refl _
  case exit=>cases he;exact .refl _
  case ret=>cases he;exact .refl _
  case seq a b =>
   split at he
   ·rename_i e1 h1 h2
    have k:=ih _ _ _ _ _ _ hl h2
    exact k.trans (ih _ _ _ _ _ _ (k.lim_le hl) he)
   ·exact ih _ _ _ _ _ _ hl he
  case cond c a b =>
   split at he
   ·exact ih _ _ _ _ _ _ hl he
   ·exact ih _ _ _ _ _ _ hl he
   ·cases he
  case block id b =>
   split at he
   ·rename_i h2
    split at he
    ·cases he;exact ih _ _ _ _ _ _ hl h2
    ·cases he;exact ih _ _ _ _ _ _ hl h2
   ·exact ih _ _ _ _ _ _ hl he
  case loop b =>
   split at he
   ·rename_i e1 h1 h2
    have k:=ih _ _ _ _ _ _ hl h2
    exact k.trans (ih _ _ _ _ _ _ (k.lim_le hl) he)
   ·exact ih _ _ _ _ _ _ hl he
  case region ops =>
   split at he
   ·rename_i h2;cases he;exact Ab (qW hh ih) _ _ _ _ _ hl h2
   ·cases he
  case walk x it nx ok en X Y kl ops b =>
   obtain⟨m,es,_,hg,h2,_⟩:=Lc he
   exact My (qW hh ih) ih hl hg h2
  case draw ops =>
   split at he
   ·rename_i h2;cases he;exact Jt (qW hh ih) _ _ _ [h] _ _ (show U0 [h]from⟨hl,(fun _ hg=>(by cases hg)),trivial⟩) h2 _ (List.mem_singleton.2 rfl)
   ·cases he
end Go.Dm
/-
Part 19 of "Dm": calls; one operation, a call or none; results.
-/
namespace Go.Dm
def sT(h:aA)(c:Ctx)(h':aA)(d:DV):Ending→World→Prop:=fun e w'=>∃ v,e=.returned v∧jS h c h' w' d v
def Jd(P:Program)(f:FuncId)(vals:Array Value)(h:aA)(c:Ctx)(h':aA)(d:DV):Prop :=
 (∃ v w',(callFunc f vals).run P c.w=.ok (.value v) w'∧jS h c h' w' d v) ∨
 (∃ f' vals' ,(callFunc f vals).run P c.w=.ok (.enter f' vals') c.w∧Calls P f' vals' c.w (sT h c h' d))
def iM(P:Program)(call:gY):Prop:=∀f args h d h' c vals,call f args h=some (d,h')→Rel h c→VRs c args vals→Jd P f vals.toArray h c h' d
def QU(P:Program)(o:Oper)(a:Act)(h:aA)(c:Ctx)(h':aA)(d:DV):Prop :=
 ∀K Q,(∀v w',jS h c h' w' d v→K (a.put o.dst v) w')→o.wp P a c.w K Q
theorem fE.opOk{P:Program}{o:Oper}{a:Act}{h h':aA}{c:Ctx}{d:DV}(hs:fE P h c o a h' d):QU P o a h c h' d:=by
 obtain⟨nx,v,w',hr,hn,hp⟩:=hs
 intro K Q hK
 unfold Oper.wp
 rw[hr]
 rcases hn with rfl|⟨rfl,rfl⟩
 ·exact hK v w' hp
 ·exact hK _ w' hp
theorem Jd.opOk{P:Program}{o:Oper}{a:Act}{h h':aA}{c:Ctx}{d:DV}{f:FuncId}{vals:Array Value}(hc:Jd P f vals h c h' d)
  (he:(execOp a.eval o).run P c.w=(callFunc f vals).run P c.w):QU P o a h c h' d:=by
 intro K Q hK
 unfold Oper.wp
 rw[he]
 rcases hc with⟨v,w',hr,hp⟩|⟨f',vals',hr,hcalls⟩
 ·rw[hr];exact hK v w' hp
 ·rw[hr]
  exact Calls.mono hcalls fun e w' hp=>by
   obtain⟨v,rfl,hp⟩:=hp
   exact hK v w' hp
section
variable {P:Program} {h h':aA} {c:Ctx} {env:Env} {a:Act} {o:Oper} {r:DV}
theorem AU{as:List Operand}{ds:List Opd}(hm:as.mapM opd=some ds)(hE:bY c env a):VRs c (ds.map (Opd.eval env)) (as.map a.eval):=by
 have hl:=bZ _ _ _ hm
 refine⟨by simp[hl],fun i h1 h2=>?_⟩
 simp only[List.length_map]at h1 h2
 simp only[List.getElem_map]
 exact bD (eG _ _ _ hm i h2 h1) hE
theorem VRs.app{ds es:List DV}{vs us:List Value}(h1:VRs c ds vs)(h2:VRs c es us):VRs c (ds++es) (vs++us):=by
 refine⟨by simp[h1.1,h2.1],fun i a1 a2=>?_⟩
 by_cases hi:i<ds.length
 ·have vN:i<vs.length:=by rw[←h1.1];exact hi
  rw[List.getElem_append_left hi,List.getElem_append_left vN]
  exact h1.2 i hi vN
 ·have vN:¬i<vs.length:=by rw[←h1.1];exact hi
  rw[List.getElem_append_right (Nat.le_of_not_lt hi),List.getElem_append_right (Nat.le_of_not_lt vN)]
  have:i-ds.length=i-vs.length:=by rw[h1.1]
  have b1:i-ds.length<es.length:=by simp only[List.length_append]at a1;omega
  have b2:i-vs.length<us.length:=by simp only[List.length_append]at a2;omega
  have:=h2.2 (i-ds.length) b1 (by rw[h1.1];exact b2)
  simpa only[h1.1]using this
theorem CJ{f:Operand}{args:Array Operand}{ats:Array TypeId}{g:FuncId}{cap:List Value}(ho:o.op=.call {callee:=.value f,args:=args,argTypes:=ats})
  (hf:a.eval f=.func (.func g) #[] cap.toArray) :
  (execOp a.eval o).run P c.w=(callFunc g (args.toList.map a.eval++cap).toArray).run P c.w:=by
 have e:(args.toList.map a.eval++cap).toArray=args.map a.eval++cap.toArray:=by apply Array.ext';simp
 rw[e]
 simp[execOp,ho,Go.resolve,Deferred.ofValue,hf,invoke]
theorem Wj{f':Opd}{as':List Opd}(hc:fS P o=some (.call f' as')) :
  ∃ f args ats,o.op=.call {callee:=.value f,args:=args,argTypes:=ats}∧opd f=some f'∧args.toList.mapM opd=some as':=by
 unfold fS at hc
 split at hc
 case h_32 f args ats ho =>
  split at hc
  ·rename_i g as h1 h2;cases hc;exact⟨f,args,ats,ho,h1,h2⟩
  ·cases hc
 all_goals ((repeat' split at hc)<;>first|(cases hc;done)|(simp at hc;done))
theorem sC{call:gY}(fG:iM P call){d:DOp}(hc:fS P o=some d)(hR:Rel h c)(hE:bY c env a)(hs:bC call d env h=some (r,h')):QU P o a h c h' r:=by
 by_cases hn:∀f as,d≠.call f as
 ·have Br:aC h env d=some (r,h'):=by
   unfold bC at hs
   split at hs
   ·exact absurd rfl (hn _ _)
   ·exact hs
  exact(Yo hc hn hR hE Br).opOk
 ·have:∃ f as,d=.call f as:=by
   cases d<;>first|exact⟨_,_,rfl⟩|exact absurd (fun _ _=>by simp) hn
  obtain⟨f',as',rfl⟩:=this
  obtain⟨f,args,ats,ho,hf,has⟩:=Wj hc
  simp only[bC]at hs
  split at hs
  ·rename_i g cap hg
   have vf:=bD hf hE
   rw[hg]at vf
   obtain⟨vs,e1,e2,e3⟩:=vf.func_inv
   exact(fG g _ h r h' c _ hs hR ((AU has hE).app ⟨e2,e3⟩)).opOk (CJ ho e1)
  ·cases hs
end
end Go.Dm
/-
Part 20 of "Dm": regions in the text's order; guards; results.
-/
namespace Go.Dm
def St(c:Ctx)(h':aA)(aU:Env)(a':Act)(w':World):Prop :=
 ∃ ρ',Rel h' (c.next w' ρ' h')∧bI c (c.next w' ρ' h')∧bY (c.next w' ρ' h') aU a'
theorem Ci(c:Ctx)(w1 w2:World)(ρ1 ρ2:Nat→Option (Nat×Nat))(h1 h2:aA):(c.next w1 ρ1 h1).next w2 ρ2 h2=c.next w2 ρ2 h2:=rfl
section
variable {P:Program} {h h':aA} {c:Ctx} {env:Env} {a:Act} {o:Oper} {r:DV}
theorem St.trans{h1:aA}{w1:World}{ρ1:Nat→Option (Nat×Nat)}(cD:bI c (c.next w1 ρ1 h1)){h2:aA}{env2:Env}{a2:Act}{w2:World}(hs:St (c.next w1 ρ1 h1) h2 env2 a2 w2):St c h2 env2 a2 w2:=by
 obtain⟨ρ2,k1,k2,k3⟩:=hs
 exact⟨ρ2,k1,cD.trans k2,k3⟩
theorem bY.mono{c c':Ctx}(hE:bY c env a)(cD:bI c c'):bY c' env a:=⟨hE.size,hE.defers,fun i hi=>(hE.val i hi).mono cD⟩
theorem bY.put(hE:bY c env a){v:Value}{d:DV}(hv:VR c d v)(dst:Option Nat):bY c (Dm.put env dst d) (a.put dst v):=by
 cases dst with
 | none=>exact hE
 | some t =>
  refine⟨by simp[Dm.put,Act.put,hE.size],hE.defers,fun i hi=>?_⟩
  simp only[Dm.put,List.length_set]at hi
  have vN:i<a.tmps.size:=by rw[hE.size];exact hi
  have:=hE.val i hi
  simp only[Array.getD_eq_getD_getElem?]at this
  simp only[Dm.put,Act.put,List.getElem_set,Array.getD_eq_getD_getElem?,Array.getElem?_setIfInBounds]
  by_cases e:t=i
  ·subst e;simpa[vN]using hv
  ·simpa[e]using this
theorem bY.get(hE:bY c env a)(t:Nat):VR c ((env[t]?).getD .unk) (a.tmps.getD t undef):=by
 by_cases ht:t<env.length
 ·rw[List.getElem?_eq_getElem ht];exact hE.val t ht
 ·rw[List.getElem?_eq_none (Nat.le_of_not_lt ht)];exact .unk _
theorem fT{ops:List Oper}{g:Option (Nat×Bool)}(hg:Qj ops o.guard=some g)(hE:bY c env a){b:Bool}(hw:fU env g=some b) :
  Region.wanted o (yielded ops.toArray a.tmps)=b:=by
 unfold Qj at hg
 split at hg
 ·rename_i hn
  cases hg
  simp only[fU]at hw
  cases hw
  simp[Region.wanted,hn]
 ·rename_i j want hn
  split at hg
  ·rename_i og hog
   split at hg
   ·rename_i t ht
    cases hg
    simp only[fU]at hw
    split at hw
    ·rename_i b' hb
     cases hw
     obtain⟨aY,Kh⟩:=List.getElem?_eq_some_iff.1 hb
     have hv:=hE.val t aY
     rw[Kh]at hv
     have hv:=hv.bool_inv
     have qH:t<a.tmps.size:=by rw[hE.size];exact aY
     simp[qH]at hv
     simp[Region.wanted,hn,yielded,hog,ht,qH,hv]
    ·rename_i vs hb
     cases hw
     obtain⟨aY,Kh⟩:=List.getElem?_eq_some_iff.1 hb
     have hv:=hE.val t aY
     rw[Kh]at hv
     obtain⟨us,hv,_⟩:=hv.tup_inv
     have qH:t<a.tmps.size:=by rw[hE.size];exact aY
     simp[qH]at hv
     simp[Region.wanted,hn,yielded,hog,ht,qH,hv]
    ·cases hw
   ·cases hg
  ·cases hg
theorem VR.undef:VR c bH Go.undef:=.tup (ds:=[]) (vs:=[]) rfl (fun i h1 _=>absurd h1 (by simp))
theorem iF{ops:List Oper}{k:sR}{s:Nat}{d:aH}(hc:cZ P ops k s o=some d) :
  fS P o=some d.op∧Qj ops o.guard=some d.guard∧d.dst=o.dst∧d.kind=k∧d.snap=s:=by
 unfold cZ at hc
 split at hc
 ·rename_i x g h1 h2;cases hc;exact⟨h1,h2,rfl,rfl,rfl⟩
 ·cases hc
theorem xZ{call:gY}(fG:iM P call){ops l2:List Oper}{Q:Exit→Act→World→Prop}:∀(l:List Oper) (ds:List aH) (h:aA) (c:Ctx) (env:Env) (a:Act) (aU:Env) (h':aA),
  l.mapM (cZ P ops .write 0)=some ds→eM call ds env h=some (aU,h')→Rel h c→bY c env a→(∀a' w',St c h' aU a' w'→wpList P ops.toArray Q l2 a' w')→wpList P ops.toArray Q (l++l2) a c.w:=by
 intro l
 induction l with
 | nil =>
  intro ds h c env a aU h' hm hr hR hE hQ
  simp only[List.mapM_nil,Option.pure_def,Option.some.injEq]at hm
  subst hm
  cases hr
  exact hQ a c.w ⟨c.ρ,by rw[hR.same];exact⟨hR,.refl c,hE⟩⟩
 | cons o l ih =>
  intro ds h c env a aU h' hm hr hR hE hQ
  simp only[List.mapM_cons,Option.pure_def,Option.bind_eq_bind,Option.bind_eq_some_iff]at hm
  obtain⟨d,hd,ds',Dx,hm⟩:=hm
  cases hm
  obtain⟨h1,h2,h3,_,_⟩:=iF hd
  refine wpList_step fun K hK=>?_
  simp only[eM]at hr
  split at hr
  ·rename_i hw
   rw[if_pos (fT h2 hE hw)]
   split at hr
   ·rename_i v JL yT
    refine sC fG h1 hR hE yT K Q fun u w' hp=>?_
    obtain⟨ρ',k1,k2,k3⟩:=hp
    refine hK _ _ (ih ds' JL (c.next w' ρ' JL) _ (a.put o.dst u) aU h' Dx hr k1 ?_ fun a' w'' cS=>hQ _ _ (cS.trans k2))
    rw[←h3]
    exact(hE.mono k2).put k3 _
   ·cases hr
  ·rename_i hw
   rw[if_neg (by rw[fT h2 hE hw];simp)]
   refine hK _ _ (ih ds' h c _ (a.put o.dst Go.undef) aU h' Dx hr hR ?_ hQ)
   rw[←h3]
   exact hE.put .undef _
  ·cases hr
theorem wV{call:gY}(fG:iM P call){ops:List Oper}{Q:Exit→Act→World→Prop}(l:List Oper)(ds:List aH)(h:aA)(c:Ctx)(env:Env)(a:Act)(aU:Env)(h':aA)
  (hm:l.mapM (cZ P ops .write 0)=some ds) (hr:eM call ds env h=some (aU,h')) (hR:Rel h c) (hE:bY c env a) (hQ:∀a' w',St c h' aU a' w'→Q .normal a' w'):wpList P ops.toArray Q l a c.w:=by
 have:=xZ fG (l2:=[]) l ds h c env a aU h' hm hr hR hE fun a' w' cS=>wpList_nil (hQ a' w' cS)
 rwa[List.append_nil]at this
def uY(a:Act):ResultVar→Sem Value
 | .tmp t=>pure (a.tmps.getD t Go.undef)
 | .cell x t=>do loadVar t (←asAddr (a.tmps.getD x Go.undef))
theorem Gn(fn:Func)(a:Act):results fn a.tmps=(fn.results.mapM (uY a) >>= fun vs=>pure (if h:vs.size=1 then vs[0]else .tuple vs)):=by
 unfold results
 congr 1
theorem AH{rv:ResultVar}{dr:Lb}(hc:Bj P rv=some dr)(hR:Rel h c)(hE:bY c env a){d:DV}(hs:iT h env dr=some d) :
  ∃ v,(uY a rv).run P c.w=.ok v c.w∧VR c d v:=by
 unfold Bj at hc
 split at hc
 ·rename_i t
  cases hc
  simp only[iT,Option.some.injEq]at hs
  subst hs
  exact⟨_,by simp only[uY,Sem.run_pure],hE.get t⟩
 ·rename_i x t
  split at hc
  ·rename_i n hn
   cases hc
   simp only[iT]at hs
   obtain⟨b,o,off,cs,e1,e2,e3⟩:=yR hR (hE.get x) hs
   obtain⟨u,f1,f2⟩:=Gs (P:=P) e2 e3 hn
   exact⟨u,by simp only[uY,e1,Sem.run_bind,asAddr,Sem.run_pure,Result.andThen_ok];exact f1,f2⟩
  ·cases hc
theorem II{α:Type}(f:α→Sem Value)(w:World):∀(l:List α) (vs:List Value),l.length=vs.length→(∀i (h1:i<l.length) (h2:i<vs.length),(f l[i]).run P w=.ok vs[i] w)→(l.mapM f).run P w=.ok vs w:=by
 intro l
 induction l with
 | nil=>intro vs hl _;cases vs with|nil=>simp|cons=>simp at hl
 | cons x l ih =>
  intro vs hl hv
  cases vs with
  | nil=>simp at hl
  | cons v vs =>
   have h0:=hv 0 (by simp) (by simp)
   simp only[List.getElem_cons_zero]at h0
   have:=ih vs (by simpa using hl) (fun i h1 h2=>by have:=hv (i+1) (by simpa using h1) (by simpa using h2);simpa only[List.getElem_cons_succ]using this)
   simp[List.mapM_cons,h0,this]
theorem Jw{fn:Func}{rs:List Lb}(hc:fn.results.toList.mapM (Bj P)=some rs)(hR:Rel h c)(hE:bY c env a){d:DV}(hs:aT h env rs=some d) :
  ∃ v,(results fn a.tmps).run P c.w=.ok v c.w∧VR c d v:=by
 have hl:=bZ _ _ _ hc
 have main:∀ds:List DV,rs.mapM (iT h env)=some ds→∃ vs:List Value,ds.length=vs.length∧(∀i (h1:i<ds.length) (h2:i<vs.length),VR c ds[i] vs[i]) ∧
   (fn.results.mapM (uY a)).run P c.w=.ok vs.toArray c.w:=by
  intro ds Dx
  have Fb:=bZ _ _ _ Dx
  have each:∀i (hi:i<fn.results.toList.length),∃ v,(uY a fn.results.toList[i]).run P c.w=.ok v c.w∧VR c (ds[i]'(by omega)) v :=
   fun i hi=>AH (eG _ _ _ hc i hi (by omega)) hR hE (eG _ _ _ Dx i (by omega) (by omega))
  let vs:List Value:=(List.range fn.results.toList.length).map fun i=>if hi:i<fn.results.toList.length then Classical.choose (each i hi)else Go.undef
  have hvl:vs.length=fn.results.toList.length:=by simp[vs]
  have hvi:∀i (hi:i<fn.results.toList.length),vs[i]'(by omega)=Classical.choose (each i hi):=fun i hi=>by simp only[vs,List.getElem_map,List.getElem_range,dif_pos hi]
  refine⟨vs,by omega,fun i h1 h2=>?_,?_⟩
  ·rw[hvi i (by omega)]
   exact(Classical.choose_spec (each i (by omega))).2
  ·rw[Array.mapM_eq_mapM_toList]
   have:=II (P:=P) (uY a) c.w fn.results.toList vs hvl.symm
    (fun i h1 h2=>by rw[hvi i h1];exact(Classical.choose_spec (each i h1)).1)
   simp only[Sem.run_map,this]
   rfl
 unfold aT at hs
 rw[Gn]
 split at hs
 ·rename_i rr
  obtain⟨vs,k1,k2,k3⟩:=main [d] (by simp[hs])
  have hv1:vs.length=1:=by rw[←k1];rfl
  refine⟨vs[0]'(by omega),?_,k2 0 (by simp) (by omega)⟩
  simp only[Sem.run_bind,k3,Result.andThen_ok]
  simp[hv1]
 ·rename_i cK
  split at hs
  ·rename_i ds Dx
   cases hs
   obtain⟨vs,k1,k2,k3⟩:=main ds Dx
   have Fb:=bZ _ _ _ Dx
   have hv1:vs.length≠1:=by
    intro e
    have:rs.length=1:=by omega
    obtain⟨x,hx⟩:=List.length_eq_one_iff.1 this
    exact cK x hx
   refine⟨.tuple vs.toArray,?_,.tup k1 k2⟩
   simp only[Sem.run_bind,k3,Result.andThen_ok]
   simp[hv1]
  ·cases hs
end
end Go.Dm
/-
Part 34 of "Dm" (ahead of part 21): when two data, two objects, two heaps are the same.
-/
namespace Go.Dm
mutual
theorem DV.beq_eq:∀(a b:DV),DV.beq a b=true→a=b:=by
 intro a b h
 cases a<;>cases b<;>simp only[DV.beq,Bool.false_eq_true]at h<;>try rfl
 all_goals try simp only[Bool.and_eq_true,decide_eq_true_eq,beq_iff_eq,Nat.beq_eq]at h
 case bool=>rw[h]
 case int=>rw[h.1,h.2]
 case str=>rw[h]
 case ptr=>obtain⟨⟨⟨h1,h2⟩,h3⟩,h4⟩:=h;rw[h1,h2,h3,h4]
 case sl=>obtain⟨⟨⟨h1,h2⟩,h3⟩,h4⟩:=h;rw[h1,h2,h3,h4]
 case iptr=>obtain⟨⟨h1,h2⟩,h3⟩:=h;rw[h1,h2,nI _ _ h3]
 case isl=>obtain⟨⟨h1,h2⟩,h3⟩:=h;rw[h1,h2,nI _ _ h3]
 case map=>rw[h]
 case tok=>rw[h]
 case atl=>rw[h]
 case func=>rw[h.1,nI _ _ h.2]
 case iface=>rw[h.1,DV.beq_eq _ _ h.2]
 case agg=>rw[nI _ _ h]
 case tup=>rw[nI _ _ h]
theorem nI:∀(a b:List DV),uC a b=true→a=b:=by
 intro a b h
 cases a<;>cases b<;>simp only[uC,Bool.false_eq_true,Bool.and_eq_true]at h<;>try rfl
 rw[DV.beq_eq _ _ h.1,nI _ _ h.2]
end
theorem T3{p q:DV×DV}(h:QN p q=true):p=q:=by
 simp only[QN,Bool.and_eq_true]at h
 exact Prod.ext (DV.beq_eq _ _ h.1) (DV.beq_eq _ _ h.2)
theorem KO:∀{a b:List (DV×DV)},Wt a b=true→a=b:=by
 intro a
 induction a with
 | nil=>intro b h;cases b<;>simp only[Wt,Bool.false_eq_true]at h;rfl
 | cons x r ih =>
  intro b h
  cases b<;>simp only[Wt,Bool.false_eq_true,Bool.and_eq_true]at h
  rw[T3 h.1,ih h.2]
theorem Gi{a b:DO}(h:Ln a b=true):a=b:=by
 cases a<;>cases b<;>simp only[Ln,Bool.false_eq_true]at h<;>try rfl
 case arr e1 s1 x1 c1 e2 s2 x2 c2 =>
  simp only[Bool.and_eq_true,Nat.beq_eq]at h
  obtain⟨⟨⟨h1,h2⟩,h3⟩,h4⟩:=h
  have hc:c1=c2:=by
   cases c1<;>cases c2<;>simp only[beqC,Bool.false_eq_true,Nat.beq_eq]at h3<;>try rfl
   rw[h3]
  rw[h1,h2,hc,nI _ _ h4]
 case mp x1 x2=>rw[KO h]
theorem Wg:∀(n:Nat) (a b:List DO) (id:Nat),id<n→id ∉ Wh n a b→a[n-1-id]?=b[n-1-id]?:=by
 intro n
 induction n with
 | zero=>intro a b id eF _;omega
 | succ n ih =>
  intro a b id eF hn
  cases a with
  | nil=>cases b with
   | nil=>rfl
   | cons y s=>exact absurd (List.mem_range.2 eF) hn
  | cons x r=>cases b with
   | nil=>exact absurd (List.mem_range.2 eF) hn
   | cons y s =>
    simp only[Wh]at hn
    by_cases he:id=n
    ·subst he
     have:id+1-1-id=0:=by omega
     rw[this]
     split at hn
     ·rename_i hs
      simp only[List.getElem?_cons_zero]
      rw[Gi hs]
     ·exact absurd (List.mem_cons_self ..) hn
    ·have h1:n+1-1-id=(n-1-id)+1:=by omega
     rw[h1,List.getElem?_cons_succ,List.getElem?_cons_succ]
     refine ih r s id (by omega) fun hm=>hn ?_
     split
     ·exact hm
     ·exact List.mem_cons_of_mem _ hm
theorem yD{h h':aA}{id:Nat}(eF:id<h.n)(hn:id ∉ xH h h'):h'.get id=h.get id:=by
 unfold xH at hn
 split at hn
 ·rename_i cD
  have:=Wg _ _ _ id eF hn
  have h2:id<h'.n:=Nat.lt_of_lt_of_le eF cD
  unfold aA.get
  rw[if_pos eF,if_pos h2,this,List.getElem?_drop]
  congr 1
  omega
 ·exact absurd (List.mem_range.2 eF) hn
end Go.Dm
/-
Part 21 of "Dm": a region with an open order: its run in an order of our own, by positions.
-/
namespace Go.Dm
structure Fit(P:Program)(ops:List Oper)(bQ:List (Nat×aH))(bs:List Nat):Prop where
 edge:∀j o e,ops[j]?=some o→e∈o.after.toList→Region.binds .any e=true→mF bs j e.on=true∧e.on<j
 clos:∀j o i,ops[j]?=some o→i<ops.length→mF bs j i=true→∃ e,e∈o.after.toList∧Region.binds .any e=true∧(e.on=i∨mF bs e.on i=true)
 all:∀i,i<ops.length→∃ (p:Nat) (x:Nat×aH),bQ[p]?=some x∧x.1=i
 comp:∀(p:Nat) (x:Nat×aH),bQ[p]?=some x→∃ o k s d,ops[x.1]?=some o∧cZ P ops k s o=some d∧d.op=x.2.op∧d.guard=x.2.guard∧d.dst=x.2.dst
 kind:∀(p:Nat) (x:Nat×aH),bQ[p]?=some x→nO x.2=true
 pair:∀(p q:Nat) (x y:Nat×aH),p<q→bQ[p]?=some x→bQ[q]?=some y→x.1≠y.1∧mF bs x.1 y.1=false∧vB (mF bs y.1 x.1) (Ch bQ p) x.2 y.2=true
theorem sV{α:Type}{l:List α}{f:α×Nat→Bool}(h:l.zipIdx.all f=true){j:Nat}{x:α}(hx:l[j]?=some x):f (x,j)=true:=by
 have:=List.all_eq_true.1 h (x,j) (by rw[List.mem_zipIdx_iff_getElem?];simpa using hx)
 exact this
theorem eI{P:Program}{ops:List Oper}{dc:aI}(hc:fD P ops true=some dc):∃ (bQ:List (Nat×aH)) (bs:List Nat),dc=.draw (bQ.map (·.2))∧Fit P ops bQ bs:=by
 simp only[fD,if_true]at hc
 split at hc
 ·cases hc
 ·rename_i dops hd
  split at hc
  ·rename_i bQ hdis
   split at hc
   ·rename_i hok
    cases hc
    refine⟨bQ,bits ops,rfl,?_⟩
    simp only[JZ,Bool.and_eq_true]at hok
    obtain⟨⟨⟨⟨k1,k2⟩,k3⟩,k4⟩,k5⟩:=hok
    refine⟨fun j o e ho he hb=>?_,fun j o i ho hi hb=>?_,fun i hi=>?_,fun p x hx=>?_,fun p x hx=>?_,fun p q x y Mg hx hy=>?_⟩
    ·have:=List.all_eq_true.1 (sV k1 ho) e he
     simp only[hb,Bool.not_true,Bool.false_or,Bool.and_eq_true,decide_eq_true_eq]at this
     exact this
    ·have:=List.all_eq_true.1 (sV k2 ho) i (List.mem_range.2 hi)
     simp only[hb,Bool.not_true,Bool.false_or,List.any_eq_true,Bool.and_eq_true,Bool.or_eq_true,beq_iff_eq]at this
     obtain⟨e,h1,h2,h3⟩:=this
     exact⟨e,h1,h2,h3⟩
    ·have:=List.all_eq_true.1 k3 i (List.mem_range.2 hi)
     simp only[List.any_eq_true,beq_iff_eq]at this
     obtain⟨x,h1,h2⟩:=this
     obtain⟨p,hp⟩:=List.mem_iff_getElem?.1 h1
     exact⟨p,x,hp,h2⟩
    ·obtain⟨aY,uL⟩:=List.getElem?_eq_some_iff.1 hx
     have hl:=bZ _ _ _ hdis
     have:=eG _ _ _ hdis p (by omega) aY
     rw[uL]at this
     split at this
     ·rename_i o ho
      simp only[Option.map_eq_some_iff]at this
      obtain⟨d,hd,he⟩:=this
      subst he
      exact⟨o,_,_,d,ho,hd,rfl,rfl,rfl⟩
     ·cases this
    ·exact List.all_eq_true.1 k4 x (List.mem_of_getElem? hx)
    ·have h1:=sV k5 hy
     have uL:(bQ.take q)[p]?=some x:=by rw[List.getElem?_take_of_lt Mg];exact hx
     have h2:=sV h1 uL
     simp only[Bool.and_eq_true,bne_iff_ne,ne_eq,Bool.not_eq_true']at h2
     exact⟨h2.1.1,h2.1.2,h2.2⟩
   ·cases hc
  ·cases hc
def KZ(call:gY)(d:aH)(env:Env)(hs:List aA)(L:cA)(b:Bool)(v:DV)(Br:List aA)(L':cA):Prop :=
 fU env d.guard=some b∧∃ g gs,hs=g::gs ∧
  (b=false→v=bH∧(Br=if d.kind=.read then hs else g::hs)∧L'=L) ∧
  (b=true→(d.kind=.read∧Br=hs∧(∃ h0 h1,hZ hs d.snap=some h0∧aC h0 env d.op=some (v,h1))∧L.free d.snap (bM env d.op)=true∧L'=L.see d.calm (mark env d.op)) ∨
   (d.kind=.write∧L'=L∧∃ h1,bC call d.op env g=some (v,h1)∧Br=h1::hs) ∨
   (d.kind=.create∧L'=L∧∃ h0 h1,hZ hs d.snap=some h0∧lL call h0.n d.op env g=some (v,h1)∧Br=h1::hs) ∨
   (d.kind=.create∧∃ (ids:List Nat) (h1:aA),bC call d.op env g=some (v,h1)∧(∀id,id<g.n→id ∉ ids→h1.get id=g.get id)∧(∀r,r∈L.rds→r.1<g.n→jG r g h1)∧Br=h1::hs∧L'={L with pks:=ids.map (fun id=>(gs.length,id))++L.pks}))
structure eK(call:gY)(ds:List aH)(env:Env)(hs:List aA)(L0:cA)(E:Nat→Env)(HS:Nat→List aA)(LS:Nat→cA)(V:Nat→DV)(B:Nat→Bool):Prop where
 E0:E 0=env
 H0:HS 0=hs
 L0:LS 0=L0
 step:∀p d,ds[p]?=some d→KZ call d (E p) (HS p) (LS p) (B p) (V p) (HS (p+1)) (LS (p+1))∧E (p+1)=put (E p) d.dst (V p)
theorem yE{g h1:aA}{ety sz bytes id' s0 off len id:Nat}{ys:List DV}{v:DV}(hs:bF g ety sz bytes (.sl id' s0 off len) ys=some (v,h1))(eF:id<g.n)(cK:id'≠id):h1.get id=g.get id:=by
 unfold bF at hs
 simp only at hs
 split at hs
 ·cases hs;rfl
 ·split at hs
  ·rename_i hg
   split at hs
   ·split at hs
    ·split at hs
     ·cases hs;exact aN (cY hg) (fun e=>cK e.symm)
     ·cases hs
    ·split at hs
     ·cases hs;exact aG eF
     ·split at hs
      ·cases hs
       rw[aG (by exact eF)]
       exact aN (cY hg) (fun e=>cK e.symm)
      ·cases hs
   ·cases hs
  ·cases hs
theorem Gr{L:cA}{env:Env}{o:DOp}{id' id:Nat}{g h1:aA}{v:DV}(hp:kD L env o=some id')(hs:aC g env o=some (v,h1))(eF:id<g.n)(cK:id'≠id):h1.get id=g.get id:=by
 cases o<;>simp only[kD]at hp<;>try (cases hp;done)
 case store n a x =>
  split at hp
  ·rename_i i1 s1 x1 o1 R9
   split at hp
   ·cases hp
    simp only[aC,R9]at hs
    split at hs
    ·rename_i h2 cS
     cases hs
     unfold hU at cS
     simp only at cS
     split at cS
     ·rename_i Qh
      split at cS
      ·split at cS
       ·split at cS
        ·cases cS;exact aN (cY Qh) (fun e=>cK e.symm)
        ·cases cS
       ·cases cS
      ·cases cS
     ·cases cS
    ·cases hs
   ·cases hp
  ·cases hp
 case append e sz b a x =>
  split at hp
  ·rename_i R9
   split at hp
   ·cases hp
    simp only[aC,R9]at hs
    split at hs
    ·exact yE hs eF cK
    ·cases hs
   ·cases hp
  ·cases hp
 case appendZ e sz b z a x =>
  split at hp
  ·rename_i R9
   split at hp
   ·cases hp
    simp only[aC,R9]at hs
    split at hs
    ·split at hs
     ·exact yE hs eF cK
     ·cases hs
    ·cases hs
   ·cases hp
  ·cases hp
theorem Ql{h:aA}{id:Nat}{o o':DO}(hg:h.get id=some o):(h.set id o').get id=some o':=by
 have aY:=cY hg
 unfold aA.get at hg ⊢
 rw[if_pos aY]at hg
 show(if id<h.n then(h.objs.set (h.n-1-id) o')[h.n-1-id]? else none)=some o'
 rw[if_pos aY,List.getElem?_set_self (List.getElem?_eq_some_iff.1 hg).1]
theorem Vz{sz off n:Nat}{e x:DV}(hx:aQ n x=true)(hl:(aF sz e).length=sz)(ho:off+n≤sz){j:Nat}(hj:j<off∨off+n≤j):(aF sz (turn sz off n e x))[j]?=(aF sz e)[j]?:=by
 have hxl:(aF n x).length=n:=by
  unfold aQ at hx
  split at hx
  ·cases hx
  ·cases hx
  ·cases hx
  ·simpa[aF]using hx
  ·have:n=1:=by simpa using hx
   subst this
   cases x<;>simp_all[aF]
 unfold turn
 split
 ·rename_i h
  have:j ≥ sz:=by omega
  have hxl':(aF sz x).length=sz:=by rw[←h.2];exact hxl
  rw[List.getElem?_eq_none (by omega),List.getElem?_eq_none (by omega)]
 ·show((aF sz e).take off++aF n x++(aF sz e).drop (off+n))[j]?=_
  have ht:((aF sz e).take off).length=off:=by rw[List.length_take];omega
  rcases hj with hj|hj
  ·rw[List.append_assoc,List.getElem?_append_left (by omega),List.getElem?_take_of_lt hj]
  ·rw[List.getElem?_append_right (by rw[List.length_append];omega),List.getElem?_drop,List.length_append,ht,hxl]
   congr 1
   omega
theorem Er{sz off n:Nat}{e x:DV}(hx:aQ n x=true)(hl:(aF sz e).length=sz)(ho:off+n≤sz):(aF sz (turn sz off n e x)).length=sz:=by
 have hxl:(aF n x).length=n:=by
  unfold aQ at hx
  split at hx
  ·cases hx
  ·cases hx
  ·cases hx
  ·simpa[aF]using hx
  ·have:n=1:=by simpa using hx
   subst this
   cases x<;>simp_all[aF]
 unfold turn
 split
 ·rename_i h;rw[←h.2];exact hxl
 ·show((aF sz e).take off++aF n x++(aF sz e).drop (off+n)).length=sz
  simp only[List.length_append,List.length_take,List.length_drop]
  omega
theorem B1{m:Option Nat}{xs ys:List DV}{o:Nat}(hl:xs.length=ys.length)(h:∀j,o≤j→j<o+Fo m→xs[j]?=ys[j]?):cO m xs o=cO m ys o:=by
 cases m with
 | none=>exact h o (Nat.le_refl _) (Nat.lt_succ_self _)
 | some k =>
  simp only[cO,hl]
  split
  ·congr 2
   refine List.ext_getElem? fun i=>?_
   simp only[List.getElem?_take,List.getElem?_drop]
   split
   ·exact h (o+i) (by omega) (by show o+i<o+k;omega)
   ·rfl
  ·rfl
theorem Sa{g h1:aA}{n id sz idx off:Nat}{x:DV}(hs:hU g n (.ptr id sz idx off) x=some h1){p:jP}(ha:oP p n idx off=true):jG (id,p) g h1:=by
 unfold hU at hs
 simp only at hs
 split at hs
 ·rename_i ety dK xs cap hg
  split at hs
  ·rename_i hc
   obtain⟨rfl,_,cS,hoff⟩:=hc
   split at hs
   ·rename_i e he
    split at hs
    ·rename_i nR
     cases hs
     cases p with
     | none=>cases ha
     | some q =>
      obtain⟨m,dK,i,o⟩:=q
      have sK:(g.set id (.arr ety sz (xs.set idx (turn sz off n e x)) cap)).get id=some (.arr ety sz (xs.set idx (turn sz off n e x)) cap):=Ql hg
      unfold jG
      simp only[iW,sK,hg]
      split
      ·rename_i dX
       subst dX
       simp only[oP,Bool.or_eq_true,Bool.not_eq_true',Nat.ble_eq]at ha
       by_cases hi:i=idx
       ·subst hi
        have aY:=(List.getElem?_eq_some_iff.1 he).1
        rw[List.getElem?_set_self aY,he]
        refine B1 (by rw[Er cS nR hoff,nR]) fun j j1 j2=>Vz cS nR hoff ?_
        rcases ha with(ha|ha)|ha
        ·simp at ha
        ·omega
        ·omega
       ·rw[List.getElem?_set_ne (fun e=>hi e.symm)]
      ·rfl
    ·cases hs
   ·cases hs
  ·cases hs
 ·cases hs
theorem Tu{L:cA}{env:Env}{o:DOp}{id:Nat}{g h1:aA}{v:DV}(hp:kD L env o=some id)(hs:aC g env o=some (v,h1)):∀r,r∈L.rds→r.1<g.n→jG r g h1:=by
 intro r hr hn
 by_cases cK:id=r.1
 ·subst cK
  have un:∀i:Nat,(if(L.rds.all fun x=>!(Nat.beq x.1 i))=true then some i else none)=some r.1→False:=by
   intro i hi
   split at hi
   ·rename_i iD
    cases hi
    have:=List.all_eq_true.1 iD r hr
    simp at this
   ·cases hi
  unfold kD at hp
  split at hp
  ·rename_i n a x
   split at hp
   ·rename_i i1 sz idx off R9
    split at hp
    ·rename_i iD
     cases hp
     have ha:=List.all_eq_true.1 iD r hr
     simp only[Nat.beq_refl,Bool.not_true,Bool.false_or]at ha
     simp only[aC,R9]at hs
     split at hs
     ·rename_i h2 cS
      cases hs
      exact Sa cS ha
     ·cases hs
    ·cases hp
   ·cases hp
  ·split at hp
   ·exact(un _ hp).elim
   ·cases hp
  ·split at hp
   ·exact(un _ hp).elim
   ·cases hp
  ·cases hp
 ·exact .of_get (Gr hp hs hn cK)
theorem Mz{call:gY}:∀(ds:List aH) (env aU:Env) (hs:List aA) (L:cA) (h':aA),dL call ds env hs L=some (aU,h') →
  ∃ E HS LS V B,eK call ds env hs L E HS LS V B∧E ds.length=aU∧∃ gs,HS ds.length=h'::gs:=by
 intro ds
 induction ds with
 | nil =>
  intro env aU hs L h' hr
  cases hs with
  | nil=>cases hr
  | cons h hs =>
   cases hr
   exact⟨fun _=>env,fun _=>h'::hs,fun _=>L,fun _=>.unk,fun _=>false,⟨rfl,rfl,rfl,fun p d hd=>by simp at hd⟩,rfl,hs,rfl⟩
 | cons o r ih =>
  intro env aU hs L h' hr
  have key:∀b v hs1 L1,KZ call o env hs L b v hs1 L1→dL call r (put env o.dst v) hs1 L1=some (aU,h') →
    ∃ E HS LS V B,eK call (o::r) env hs L E HS LS V B∧E (o::r).length=aU∧∃ gs,HS (o::r).length=h'::gs:=by
   intro b v hs1 L1 cS hr1
   obtain⟨E,HS,LS,V,B,ht,h1,h2⟩:=ih _ _ _ _ _ hr1
   refine⟨fun p=>match p with|0=>env|p+1=>E p,fun p=>match p with|0=>hs|p+1=>HS p,fun p=>match p with|0=>L|p+1=>LS p,fun p=>match p with|0=>v|p+1=>V p,fun p=>match p with|0=>b|p+1=>B p,⟨rfl,rfl,rfl,?_⟩,h1,h2⟩
   intro p d hd
   cases p with
   | zero =>
    simp only[List.getElem?_cons_zero,Option.some.injEq]at hd
    subst hd
    exact⟨by simpa only[ht.H0,ht.L0]using cS,by simp only[ht.E0]⟩
   | succ p=>exact ht.step p d (by simpa using hd)
  cases hs with
  | nil=>simp[dL]at hr
  | cons h hs =>
   simp only[dL]at hr
   split at hr
   ·cases hr
   ·rename_i hw
    split at hr
    ·rename_i hk
     split at hr
     ·rename_i hfree
      split at hr
      ·rename_i h0 PB
       split at hr
       ·rename_i v h1 cS
        exact key true v _ _ ⟨hw,h,hs,rfl,fun e=>(by cases e),fun _=>.inl ⟨hk,rfl,⟨h0,h1,PB,cS⟩,hfree,rfl⟩⟩ hr
       ·cases hr
      ·cases hr
     ·cases hr
    ·rename_i hk
     split at hr
     ·rename_i v h1 cS
      exact key true v _ _ ⟨hw,h,hs,rfl,fun e=>(by cases e),fun _=>.inr (.inl ⟨hk,rfl,h1,cS,rfl⟩)⟩ hr
     ·cases hr
    ·rename_i hk
     split at hr
     ·rename_i h0 PB
      split at hr
      ·rename_i v h1 L1 cS
       refine key true v _ _ ⟨hw,h,hs,rfl,fun e=>(by cases e),fun _=>.inr (.inr ?_)⟩ hr
       unfold cI at cS
       split at cS
       ·rename_i id eF
        split at cS
        ·rename_i h3
         cases cS
         refine .inr ⟨hk,[id],h1,by rw[A9 eF];exact h3,fun i hi cK=>Gr eF h3 hi (fun e=>cK (by rw[e];exact List.mem_singleton.2 rfl)),Tu eF h3,rfl,rfl⟩
        ·cases cS
       ·split at cS
        ·unfold lF at cS
         split at cS
         ·split at cS
          ·rename_i h3
           split at cS
           ·rename_i iD
            cases cS
            exact .inr ⟨hk,_,h1,h3,fun i hi cK=>yD hi cK,fun r hr hn=>.of_get (yD hn fun hm=>by
             have:=List.all_eq_true.1 (List.all_eq_true.1 iD _ hm) r hr
             simp at this),rfl,rfl⟩
           ·cases cS
          ·cases cS
         ·cases cS
        ·split at cS
         ·rename_i h3;cases cS;exact .inl ⟨hk,rfl,h0,h1,PB,h3,rfl⟩
         ·cases cS
      ·cases hr
     ·cases hr
   ·rename_i hw
    exact key false bH _ _ ⟨hw,h,hs,rfl,fun _=>⟨rfl,rfl,rfl⟩,fun e=>(by cases e)⟩ hr
def aR(hs:List aA):aA:=hs.headD default
section
variable {call:gY} {ds:List aH} {env:Env} {h:aA} {E:Nat→Env} {HS:Nat→List aA} {LS:Nat→cA} {V:Nat→DV} {B:Nat→Bool}
def hG(ds:List aH)(p:Nat):Nat:=((ds.take p).filter fun x=>x.kind != .read).length
theorem tC{p:Nat}{d:aH}(hd:ds[p]?=some d):hG ds (p+1)=hG ds p+(if d.kind=.read then 0 else 1):=by
 obtain⟨aY,he⟩:=List.getElem?_eq_some_iff.1 hd
 unfold hG
 rw[List.take_succ_eq_append_getElem aY,List.filter_append,List.length_append,he]
 cases hk:d.kind<;>simp[hk]
theorem mJ{p q:Nat}(Mg:p≤q):hG ds p≤hG ds q:=by
 unfold hG
 have:(ds.take p).filter (fun x=>x.kind != .read) <+: (ds.take q).filter (fun x=>x.kind != .read):=(List.take_prefix_take_left Mg).filter _
 exact this.length_le
theorem eK.shape(T:eK call ds env [h] .start E HS LS V B):∀p,p≤ds.length→HS p≠[]∧(HS p).length=hG ds p+1:=by
 intro p
 induction p with
 | zero=>intro _;rw[T.H0];simp[hG]
 | succ p ih =>
  intro hp
  obtain⟨d,hd⟩:∃ d,ds[p]?=some d:=⟨ds[p]'(by omega),List.getElem?_eq_getElem (by omega)⟩
  obtain⟨i1,i2⟩:=ih (by omega)
  obtain⟨⟨hw,g,gs,hg,hf,ht⟩,_⟩:=T.step p d hd
  rw[tC hd]
  cases hb:B p with
  | false =>
   obtain⟨_,e,_⟩:=hf hb
   rw[e]
   split
   ·exact⟨i1,by omega⟩
   ·exact⟨by simp,by simp[i2]⟩
  | true =>
   rcases ht hb with⟨hk,e,_⟩|⟨hk,_,h1,_,e⟩|⟨hk,_,h0,h1,_,_,e⟩|⟨hk,id,h1,_,_,_,e,_⟩<;>rw[e,hk]
   ·exact⟨i1,by simp[i2]⟩
   ·exact⟨by simp,by simp[i2]⟩
   ·exact⟨by simp,by simp[i2]⟩
   ·exact⟨by simp,by simp[i2]⟩
theorem eK.heap(T:eK call ds env [h] .start E HS LS V B){p:Nat}{d:aH}(hd:ds[p]?=some d) :
  (d.kind=.read∧HS (p+1)=HS p)∨(d.kind≠.read∧HS (p+1)=aR (HS (p+1))::HS p):=by
 obtain⟨⟨hw,g,gs,hg,hf,ht⟩,_⟩:=T.step p d hd
 cases hb:B p with
 | false =>
  obtain⟨_,e,_⟩:=hf hb
  split at e
  ·rename_i hk;exact .inl ⟨hk,e⟩
  ·rename_i hk;exact .inr ⟨hk,by rw[e];simp[aR]⟩
 | true =>
  rcases ht hb with⟨hk,e,_⟩|⟨hk,_,h1,_,e⟩|⟨hk,_,h0,h1,_,_,e⟩|⟨hk,id,h1,_,_,_,e,_⟩
  ·exact .inl ⟨hk,e⟩
  ·exact .inr ⟨by rw[hk];simp,by rw[e];simp[aR]⟩
  ·exact .inr ⟨by rw[hk];simp,by rw[e];simp[aR]⟩
  ·exact .inr ⟨by rw[hk];simp,by rw[e];simp[aR]⟩
theorem eK.head(T:eK call ds env [h] .start E HS LS V B){p:Nat}(hp:p≤ds.length):∃ gs,HS p=aR (HS p)::gs:=by
 have:=(T.shape p hp).1
 cases hh:HS p with
 | nil=>exact absurd hh this
 | cons g gs=>exact⟨gs,by simp[aR]⟩
theorem eK.snap(T:eK call ds env [h] .start E HS LS V B):∀p,p≤ds.length→∀s h0,hZ (HS p) s=some h0→∃ m,m≤p∧h0=aR (HS m)∧hG ds m=s:=by
 intro p
 induction p with
 | zero =>
  intro _ s h0 hs
  rw[T.H0]at hs
  unfold hZ at hs
  split at hs
  ·rename_i aY
   simp only[List.length_singleton,Nat.lt_one_iff]at aY
   subst aY
   simp at hs
   exact⟨0,Nat.le_refl _,by rw[T.H0];exact hs.symm,rfl⟩
  ·cases hs
 | succ p ih =>
  intro hp s h0 hs
  obtain⟨d,hd⟩:∃ d,ds[p]?=some d:=⟨ds[p]'(by omega),List.getElem?_eq_getElem (by omega)⟩
  have hl:=(T.shape p (by omega)).2
  rcases T.heap hd with⟨hk,e⟩|⟨hk,e⟩
  ·rw[e]at hs
   obtain⟨m,h1,h2,h3⟩:=ih (by omega) s h0 hs
   exact⟨m,by omega,h2,h3⟩
  ·rw[e]at hs
   unfold hZ at hs
   split at hs
   ·rename_i aY
    simp only[List.length_cons]at aY hs
    by_cases Br:s=(HS p).length
    ·subst Br
     simp only[Nat.add_sub_cancel,Nat.sub_self,List.getElem?_cons_zero,Option.some.injEq]at hs
     exact⟨p+1,Nat.le_refl _,hs.symm,by rw[tC hd,if_neg hk,hl]⟩
    ·have:(HS p).length+1-1-s=((HS p).length-1-s)+1:=by omega
     rw[this,List.getElem?_cons_succ]at hs
     obtain⟨m,h1,h2,h3⟩:=ih (by omega) s h0 (by unfold hZ;rw[if_pos (by omega)];exact hs)
     exact⟨m,by omega,h2,h3⟩
   ·cases hs
theorem eK.keeps1(T:eK call ds env [h] .start E HS LS V B)(hc:dC call)(hl:h.lim≤h.n):∀p,p≤ds.length→(aR (HS p)).lim≤(aR (HS p)).n∧∀m,m≤p→dU (aR (HS m)) (aR (HS p)):=by
 intro p
 induction p with
 | zero =>
  intro _
  refine⟨by rw[T.H0];exact hl,fun m hm=>?_⟩
  have:m=0:=by omega
  subst this
  exact .refl _
 | succ p ih =>
  intro hp
  obtain⟨d,hd⟩:∃ d,ds[p]?=some d:=⟨ds[p]'(by omega),List.getElem?_eq_getElem (by omega)⟩
  obtain⟨i1,i2⟩:=ih (by omega)
  have one:dU (aR (HS p)) (aR (HS (p+1))):=by
   obtain⟨⟨hw,g,gs,hg,hf,ht⟩,_⟩:=T.step p d hd
   have Qg:aR (HS p)=g:=by rw[hg];rfl
   cases hb:B p with
   | false =>
    obtain⟨_,e,_⟩:=hf hb
    rw[e]
    split
    ·exact .refl _
    ·rw[Qg];exact .refl _
   | true =>
    rcases ht hb with⟨hk,e,_⟩|⟨hk,_,h1,h2,e⟩|⟨hk,_,h0,h1,h2,h3,e⟩|⟨hk,id,h1,h3,_,_,e,_⟩
    rotate_right
    ·rw[e,Qg];exact iV hc (by rw[←Qg];exact i1) h3
    ·rw[e];exact .refl _
    ·rw[e,Qg];exact iV hc (by rw[←Qg];exact i1) h2
    ·obtain⟨m,a1,a2,_⟩:=T.snap p (by omega) _ _ h2
     rw[e,Qg]
     exact(tM hc (by rw[←Qg];exact i1) (by rw[a2,←Qg];exact(i2 m a1).n) h3).1
  refine⟨one.lim_le i1,fun m hm=>?_⟩
  by_cases e:m=p+1
  ·subst e;exact .refl _
  ·exact(i2 m (by omega)).trans one
theorem eK.keeps(T:eK call ds env [h] .start E HS LS V B)(hc:dC call)(hl:h.lim≤h.n){m p:Nat}(hm:m≤p)(hp:p≤ds.length):dU (aR (HS m)) (aR (HS p)):=(T.keeps1 hc hl p hp).2 m hm
theorem eK.alloc(T:eK call ds env [h] .start E HS LS V B){p:Nat}{d:aH}(hd:ds[p]?=some d)(ha:d.op.cls=.alloc)(hk:d.kind=.create)(hb:B p=true) :
  ∃ ety sz xs,El (E p) d.op=some (ety,sz,xs)∧V p=R0 (aR (HS p)).n d.op∧aR (HS (p+1))=(aR (HS p)).push (.arr ety sz xs (some xs.length)):=by
 obtain⟨⟨hw,g,gs,hg,hf,ht⟩,_⟩:=T.step p d hd
 have Qg:aR (HS p)=g:=by rw[hg];rfl
 have Qa:∀(c:gY) (h:aA),bC c d.op (E p) h=aC h (E p) d.op:=fun c h=>by
  rcases Im ha with⟨ety,sz,z,e⟩|⟨ety,sz,z,len,parts,e⟩<;>rw[e]<;>rfl
 rcases ht hb with⟨oN,_⟩|⟨oN,_⟩|⟨_,_,h0,h1,h2,h3,e⟩|⟨_,id,h1,h2,_,_,e,_⟩
 ·rw[hk]at oN;cases oN
 ·rw[hk]at oN;cases oN
 ·unfold lL at h3
  rw[Qa]at h3
  split at h3
  ·rename_i v h' h4
   simp only[Option.some.injEq,Prod.mk.injEq]at h3
   obtain⟨ety,sz,xs,m1,m2,m3⟩:=Dh ha h4
   rw[e,Qg]
   refine⟨ety,sz,xs,m1,by rw[←h3.1,m2],?_⟩
   show h1=_
   rw[←h3.2,m3]
   rfl
  ·cases h3
 ·rw[Qa]at h2
  obtain⟨ety,sz,xs,m1,m2,m3⟩:=Dh ha h2
  rw[e,Qg]
  exact⟨ety,sz,xs,m1,m2,m3⟩
theorem eK.grows(T : eK call ds env [h] .start E HS LS V B)(hc : dC call)(hl : h.lim ≤ h.n){m s : Nat}(hs : hG ds m = s) : ∀ k, m ≤ k → k ≤ ds.length →
    (∀ (p : Nat) (d : aH), m ≤ p → p < k → ds[p]? = some d → d.kind ≠ .read → d.op.cls = .alloc ∨ (d.kind = .create ∧ s ≤ d.snap)) →
    (∀ (p : Nat) (d : aH), ds[p]? = some d → d.op.cls = .alloc → d.kind = .create) →
    ∀ r : Nat × jP, r.1 < (aR (HS m)).n → (∀ (p : Nat) (d : aH), m ≤ p → p < k → ds[p]? = some d → d.kind = .create → d.op.cls ≠ .alloc → r ∈ (LS p).rds ∨ ((HS p).length - 1, r.1) ∉ (LS (p + 1)).pks) →
    jG r (aR (HS m)) (aR (HS k)) := by
  intro k
  induction k with
  | zero => intro hm _ _ _ id _ _; have : m = 0 := by omega
            subst this; exact .of_get rfl
  | succ k ih =>
    intro hm hk hw BZ rr eF hnp
    by_cases e : m = k + 1
    · subst e; exact .of_get rfl
    obtain⟨d, hd⟩ : ∃ d, ds[k]? = some d := ⟨ds[k]'(by omega), List.getElem?_eq_getElem (by omega)⟩
    have i0 := ih (by omega) (by omega) (fun p d a1 a2 => hw p d a1 (by omega)) BZ rr eF (fun p d a1 a2 => hnp p d a1 (by omega))
    refine i0.trans ?_
    have hn : rr.1 < (aR (HS k)).n := Nat.lt_of_lt_of_le eF (T.keeps hc hl (by omega : m ≤ k) (by omega)).n
    obtain⟨⟨hwd, g, gs, hg, hf, ht⟩, _⟩ := T.step k d hd
    have Qg : aR (HS k) = g := by rw[hg]; rfl
    cases hb : B k with
    | false =>
      obtain⟨_, e, _⟩ := hf hb
      rw[e]
      split
      · exact .of_get rfl
      · rw[Qg]; exact .of_get rfl
    | true =>
      by_cases Hm : d.kind = .read
      · rcases ht hb with⟨_, e, _⟩ | ⟨oN, _⟩ | ⟨oN, _⟩ | ⟨oN, _⟩
        · rw[e]; exact .of_get rfl
        · rw[Hm]at oN; cases oN
        · rw[Hm]at oN; cases oN
        · rw[Hm]at oN; cases oN
      · have hwk := hw k d (by omega) (by omega) hd Hm
        have hsplit : d.op.cls = .alloc ∨ (d.op.cls ≠ .alloc ∧ d.kind = .create ∧ s ≤ d.snap) := by
          by_cases ha : d.op.cls = .alloc
          · exact .inl ha
          · exact .inr ⟨ha, hwk.resolve_left ha⟩
        rcases hsplit with ha | ⟨WM, hcr, hsn⟩
        · have hcr := BZ k d hd ha
          obtain⟨ety, sz, xs, _, _, e⟩ := T.alloc hd ha hcr hb
          rw[e]
          exact .of_get (aG hn)
        · rcases ht hb with⟨oN, _⟩ | ⟨oN, _⟩ | ⟨_, _, h0, h1, h2, h3, e⟩ | ⟨_, ids, h1, _, h3, h4, e, eL⟩
          rotate_right
          · rw[e, Qg]
            rcases hnp k d (by omega) (by omega) hd hcr WM with hm | hm
            · exact h4 rr hm (by rw[← Qg]; exact hn)
            · refine .of_get (h3 rr.1 (by rw[← Qg]; exact hn) fun e' => hm ?_)
              rw[eL, hg]
              exact List.mem_append_left _ (List.mem_map.2 ⟨rr.1, e', rfl⟩)
          · rw[hcr]at oN; cases oN
          · rw[hcr]at oN; cases oN
          · obtain⟨m', a1, a2, a3⟩ := T.snap k (by omega) _ _ h2
            rw[e, Qg]
            have uN := T.keeps1 hc hl k (by omega)
            have yU : (aR (HS m)).n ≤ h0.n := by
              rw[a2]
              by_cases cD : m ≤ m'
              · exact(T.keeps hc hl cD (by omega)).n
              · have h4 : hG ds m' ≤ hG ds m := mJ (by omega)
                have h5 : hG ds m' = hG ds m := by omega
                have same : ∀ q, m' ≤ q → q ≤ m → HS q = HS m' := by
                  intro q
                  induction q with
                  | zero => intro hq _; have : m' = 0 := by omega
                            subst this; rfl
                  | succ q iq =>
                    intro WI PE
                    by_cases eq : m' = q + 1
                    · subst eq; rfl
                    obtain⟨dq, hdq⟩ : ∃ d, ds[q]? = some d := ⟨ds[q]'(by omega), List.getElem?_eq_getElem (by omega)⟩
                    have r1 : hG ds m' ≤ hG ds q := mJ (by omega)
                    have r2 : hG ds (q + 1) ≤ hG ds m := mJ (by omega)
                    rw[tC hdq]at r2
                    rcases T.heap hdq with⟨_, e⟩ | ⟨cK, _⟩
                    · rw[e]; exact iq (by omega) (by omega)
                    · rw[if_neg cK]at r2; omega
                rw[same m (by omega) (Nat.le_refl _)]
                exact Nat.le_refl _
            exact .of_get ((tM hc (by rw[← Qg]; exact uN.1) (by rw[a2, ← Qg]; exact(uN.2 m' a1).n) h3).2 rr.1 (Nat.lt_of_lt_of_le eF yU))
theorem eK.logs(T : eK call ds env [h] .start E HS LS V B){m : Nat} : ∀ p, m ≤ p → p ≤ ds.length → (∀ x, x ∈ (LS m).rds → x ∈ (LS p).rds) ∧ (∀ x, x ∈ (LS m).pks → x ∈ (LS p).pks) := by
  intro p
  induction p with
  | zero => intro hm _; have : m = 0 := by omega
            subst this; exact⟨fun _ h => h, fun _ h => h⟩
  | succ p ih =>
    intro hm hp
    by_cases e : m = p + 1
    · subst e; exact⟨fun _ h => h, fun _ h => h⟩
    obtain⟨i1, i2⟩ := ih (by omega) (by omega)
    obtain⟨d, hd⟩ : ∃ d, ds[p]? = some d := ⟨ds[p]'(by omega), List.getElem?_eq_getElem (by omega)⟩
    obtain⟨⟨hw, g, gs, hg, hf, ht⟩, _⟩ := T.step p d hd
    cases hb : B p with
    | false =>
      obtain⟨_, _, e⟩ := hf hb
      rw[e]; exact⟨i1, i2⟩
    | true =>
      rcases ht hb with⟨_, _, _, _, e⟩ | ⟨_, e, _⟩ | ⟨_, e, _⟩ | ⟨_, ids, h1, _, _, _, _, e⟩
      · rw[e]
        unfold cA.see
        split
        · exact⟨i1, i2⟩
        · unfold cA.read
          split
          · exact⟨fun x hx => List.mem_cons_of_mem _ (i1 x hx), i2⟩
          · exact⟨i1, i2⟩
      · rw[e]; exact⟨i1, i2⟩
      · rw[e]; exact⟨i1, i2⟩
      · rw[e]; exact⟨i1, fun x hx => List.mem_append_right _ (i2 x hx)⟩
theorem Zv(env:Env)(d:Option Nat)(v:DV):(put env d v).length=env.length:=by cases d<;>simp[put]
theorem eK.len(T:eK call ds env [h] .start E HS LS V B):∀p,p≤ds.length→(E p).length=env.length:=by
 intro p
 induction p with
 | zero=>intro _;rw[T.E0]
 | succ p ih =>
  intro hp
  obtain⟨d,hd⟩:∃ d,ds[p]?=some d:=⟨ds[p]'(by omega),List.getElem?_eq_getElem (by omega)⟩
  rw[(T.step p d hd).2,Zv,ih (by omega)]
theorem eK.old(T:eK call ds env [h] .start E HS LS V B){t:Nat}:∀q,q≤ds.length→(∀(p:Nat) (d:aH),p<q→ds[p]?=some d→d.dst≠some t)→(E q)[t]?=env[t]?:=by
 intro q
 induction q with
 | zero=>intro _ _;rw[T.E0]
 | succ q ih =>
  intro hq Qa
  obtain⟨d,hd⟩:∃ d,ds[q]?=some d:=⟨ds[q]'(by omega),List.getElem?_eq_getElem (by omega)⟩
  rw[(T.step q d hd).2]
  have h1:=ih (by omega) (fun p d hp=>Qa p d (by omega))
  have h2:=Qa q d (by omega) hd
  unfold put
  split
  ·rename_i t' ht'
   rw[List.getElem?_set,if_neg (fun e:t'=t=>h2 (by rw[ht',e])),h1]
  ·exact h1
theorem eK.new(T:eK call ds env [h] .start E HS LS V B){t p:Nat}{d:aH}(hd:ds[p]?=some d)(ht:d.dst=some t)(aY:t<env.length):∀q,p<q→q≤ds.length →
  (∀(p':Nat) (d':aH),p<p'→p'<q→ds[p']?=some d'→d'.dst≠some t)→(E q)[t]?=some (V p):=by
 intro q
 induction q with
 | zero=>intro h0;omega
 | succ q ih =>
  intro Mg hq Qa
  obtain⟨d',tN⟩:∃ d,ds[q]?=some d:=⟨ds[q]'(by omega),List.getElem?_eq_getElem (by omega)⟩
  rw[(T.step q d' tN).2]
  have hl:=T.len q (by omega)
  by_cases e:p=q
  ·subst e
   have:d'=d:=Option.some.inj (tN.symm.trans hd)
   subst this
   simp only[put,ht,List.getElem?_set]
   rw[if_pos trivial,if_pos (by omega)]
  ·have h1:=ih (by omega) (by omega) (fun p' d' a1 a2=>Qa p' d' a1 (by omega))
   have h2:=Qa q d' (by omega) (by omega) tN
   unfold put
   split
   ·rename_i t' ht'
    rw[List.getElem?_set,if_neg (fun e:t'=t=>h2 (by rw[ht',e])),h1]
   ·exact h1
end
end Go.Dm
/-
Part 22 of "Dm": a region with an open order: what holds at each of its states.
-/
namespace Go.Dm
def Ctx.cut(c:Ctx)(N:Nat):Ctx:={c with ρ:=fun id=>if id<N then c.ρ id else none}
theorem gG{c:Ctx}{N id:Nat}(h:id<N):(c.cut N).ρ id=c.ρ id:=by simp[Ctx.cut,h]
theorem qA{c:Ctx}{N id:Nat}{p:Nat×Nat}(h:(c.cut N).ρ id=some p):id<N∧c.ρ id=some p:=by
 simp only[Ctx.cut]at h
 split at h
 ·exact⟨by assumption,h⟩
 ·cases h
theorem VQ{c:Ctx}{ρ ρ':Nat→Option (Nat×Nat)}(h:∀id p,ρ id=some p→ρ' id=some p):bI {c with ρ:=ρ} {c with ρ:=ρ'} :=
 ⟨h,Nat.le_refl _,fun _ _ _=>rfl,fun _ h=>.inl h,fun _ _ _ h=>h,fun _ h=>h,fun _ _ h=>⟨h,rfl⟩,.refl _,rfl⟩
theorem oE{c:Ctx}{N M:Nat}(h:N≤M):bI (c.cut N) (c.cut M) :=
 VQ fun id p hp=>by
  split at hp
  ·rename_i aY;rw[if_pos (by omega)];exact hp
  ·cases hp
theorem KD{h:aA}{c:Ctx}(hR:Rel h c):c.cut h.n=c:=by
 have:(fun id=>if id<h.n then c.ρ id else none)=c.ρ:=by
  funext id
  split
  ·rfl
  ·rename_i hn
   cases hr:c.ρ id with
   | none=>rfl
   | some p=>exact absurd (hR.dom id (by rw[hr];simp)) hn
 cases c
 simp only[Ctx.cut]at *
 rw[this]
theorem Rel.setLim{h:aA}{c:Ctx}(hR:Rel h c){l:Nat}(hl:l≤h.n):Rel {h with lim:=l} c:=⟨hR.len,hl,hR.dom,hR.obj,hR.inj,hR.own,hR.notX,hR.old,hR.pend,hR.glob⟩
theorem Lu{h:aA}{c:Ctx}{b:Nat}:iI (h.push .dead) (c.cut (h.n+1)).ρ b↔iI h (c.cut h.n).ρ b:=by
 constructor
 ·rintro⟨id,o,x,hg,ha,hr⟩
  rw[cH]at hg
  split at hg
  ·cases hg;simp[fQ]at ha
  ·have:=cY hg
   exact⟨id,o,x,hg,ha,by rw[gG this];rw[gG (by omega)]at hr;exact hr⟩
 ·rintro⟨id,o,x,hg,ha,hr⟩
  have:=cY hg
  exact⟨id,o,x,by rw[aG this];exact hg,ha,by rw[gG (by omega)];rw[gG this]at hr;exact hr⟩
theorem Rel.pad1{h:aA}{c:Ctx}(hR:Rel h (c.cut h.n)):Rel (h.push .dead) (c.cut (h.n+1)):=by
 refine⟨sJ hR.len,Nat.le_succ_of_le hR.lim,fun id eF=>?_,fun id o hg=>?_,fun i j oi oj b x y hi hj pU Mk nX xN=>?_,fun b=>?_,hR.notX,hR.old,fun b hb=>⟨(hR.pend b hb).1,fun ho=>(hR.pend b hb).2 (Lu.1 ho)⟩,hR.glob.mono (oE (by omega))⟩
 ·cases hr:(c.cut (h.n+1)).ρ id with
  | none=>exact absurd hr eF
  | some p=>exact(qA hr).1
 ·rw[cH]at hg
  split at hg
  ·cases hg;trivial
  ·exact(hR.obj id o hg).mono (oE (by omega)) (fun _ _ _ _=>rfl)
 ·have old:∀i oi,(h.push .dead).get i=some oi→fQ oi=true→h.get i=some oi:=by
   intro i oi hi pU
   rw[cH]at hi
   split at hi
   ·cases hi;simp[fQ]at pU
   ·exact hi
  have gi:=old i oi hi pU
  have gj:=old j oj hj Mk
  have li:=cY gi
  have lj:=cY gj
  rw[gG (by omega)]at nX xN
  exact hR.inj i j oi oj b x y gi gj pU Mk (by rw[gG li];exact nX) (by rw[gG lj];exact xN)
 ·have:=hR.own b
  show c.O b↔_∨c.E b
  rw[Lu]
  exact this
theorem Rel.pad{h:aA}{c:Ctx}(hR:Rel h (c.cut h.n)):∀j,∃ h2:aA,Rel h2 (c.cut (h.n+j))∧h2.n=h.n+j∧∀id,id<h.n→h2.get id=h.get id:=by
 intro j
 induction j with
 | zero=>exact⟨h,hR,rfl,fun _ _=>rfl⟩
 | succ j ih =>
  obtain⟨h2,k1,k2,k3⟩:=ih
  refine⟨h2.push .dead,?_,by rw[Cj,k2];omega,fun id eF=>by rw[aG (by omega)];exact k3 id eF⟩
  have:=Rel.pad1 (c:=c) (h:=h2) (by rw[k2];exact k1)
  rw[k2]at this
  exact this
def Jb(c:Ctx)(b ety sz:Nat)(xs:List DV):Prop:=∃ cur,0<sz∧cur.size=xs.length*sz∧lW cur∧gJ c xs sz cur 0∧c.w.heap[b]?=some (.cells cur ety (0,0))
theorem Jb.mono{c c':Ctx}{b ety sz:Nat}{xs:List DV}(h:Jb c b ety sz xs)(cD:bI c c')(hb:c'.w.heap[b]?=c.w.heap[b]?):Jb c' b ety sz xs:=by
 obtain⟨cur,h1,h2,h3,h4,h5⟩:=h
 exact⟨cur,h1,h2,h3,fun i hi=>⟨(h4 i hi).1,fun j hj=>by
  obtain⟨v,a1,a2,a3⟩:=(h4 i hi).2 j hj
  exact⟨v,a1,a2,a3.mono cD⟩⟩,hb.trans h5⟩
theorem Qv{P:Program}{o:Oper}{ety sz:Nat}{z:DV}(hc:fS P o=some (.alloc ety sz z)):o.op=.alloc ety∧∃ bytes,dT P ety=some (sz,bytes,z):=by
 unfold fS at hc
 split at hc
 case h_4 e ho =>
  split at hc
  ·rename_i dK b z' he;cases hc;exact⟨ho,b,he⟩
  ·cases hc
 all_goals ((repeat' split at hc)<;>first|(cases hc;done)|(simp at hc;done))
theorem Bk{P:Program}{o:Oper}{e sz len:Nat}{z:DV}{ps:List (Nat×Opd)}(hc:fS P o=some (.buildSlice e sz z len ps)):∃ t parts bytes,o.op=.buildSlice t len parts∧P.underlying t=some (.slice e)∧dT P e=some (sz,bytes,z) ∧
  parts.toList.mapM (fun(x:Nat×Operand)=>(opd x.2).map fun y=>(x.1,y))=some ps∧len*sz≤16777216:=by
 unfold fS at hc
 split at hc
 case h_7 t n parts ho =>
  split at hc
  ·rename_i e' ht
   split at hc
   ·rename_i dK b z' he
    split at hc
    ·rename_i ps' BU
     split at hc
     ·rename_i hsm
      cases hc
      exact⟨t,parts,b,ho,ht,he,BU,hsm⟩
     ·cases hc
    ·cases hc
   ·cases hc
  ·cases hc
 all_goals ((repeat' split at hc)<;>first|(cases hc;done)|(simp at hc;done))
theorem IM{P:Program}{o:Oper}{d:DOp}(hc:fS P o=some d)(ha:d.cls=.alloc){c:Ctx}{env:Env}{a:Act}(hE:bY c env a){ety sz:Nat}{xs:List DV}(hm:El env d=some (ety,sz,xs)) :
  ∃ w' cur val,(execOp a.eval o).run P c.w=.ok (.value val) w'∧w'.heap.size=c.w.heap.size+1∧(∀k,k<c.w.heap.size→w'.heap[k]?=c.w.heap[k]?)∧lV c.w w' ∧
   w'.heap[c.w.heap.size]?=some (.cells cur ety (0,0))∧0<sz∧cur.size=xs.length*sz∧lW cur∧gJ c xs sz cur 0 ∧
   ∀(c':Ctx) (id:Nat),c'.ρ id=some (c.w.heap.size,0)→c'.w.shape? c.w.heap.size=some (ety,xs.length*sz)→VR c' (R0 id d) val:=by
 rcases Im ha with⟨lP,dK,z,rfl⟩|⟨lP,dK,z,len,ps,rfl⟩
 ·simp only[El,Option.some.injEq,Prod.mk.injEq]at hm
  obtain⟨rfl,rfl,rfl⟩:=hm
  obtain⟨ho,bytes,he⟩:=Qv hc
  obtain⟨i,z0,hi,e1,e2,hz,zM,dX,cS⟩:=eR he
  have nR:=zC (c:=c) cS (eD zM c)
  have hcells:=(dM (c:=c) cS (eD zM c)).2.1
  refine⟨{c.w with heap:=c.w.heap.push (.cells z0.cells lP)},z0.cells,.pointer (some ⟨c.w.heap.size,0,none⟩),?_,by simp,fun k hk=>by rw[Array.getElem?_push];simp;omega,.push (ob:=.cells z0.cells lP) rfl rfl rfl rfl,by simp,dX,by simp[hcells],qP (m:=1) nR dX (by omega) rfl,nR,fun c' id h1 _=>?_⟩
  ·simp[execOp,ho,Instr.alloc,zeroValue,typeInfo,hi,hz,newVar,newRow]
  ·have:=VR.ptr (c:=c') (id:=id) (sz:=dK) (idx:=0) (off:=0) (b:=c.w.heap.size) (base:=0) h1
   simpa[R0]using this
 ·simp only[El,Option.map_eq_some_iff]at hm
  obtain⟨xs',LJ,hm⟩:=hm
  simp only[Prod.mk.injEq]at hm
  obtain⟨rfl,rfl,rfl⟩:=hm
  obtain⟨t,parts,bytes,ho,ht,he,hp,hsmall⟩:=Bk hc
  obtain⟨w',cur,r1,r2,r3,r4,r5,r6,r7⟩:=Lo (P:=P) (o:=o) (c:=c) (env:=env) (a:=a) ho ht he hp hsmall hE LJ
  refine⟨w',cur,.slice (some ⟨c.w.heap.size,0,none⟩) len len,r1,by rw[r2];simp,fun k hk=>by rw[r2,Array.getElem?_push];simp;omega,.push (ob:=.cells cur lP) r2 rfl r3.1 r3.2.1 r3.2.2.1 r3.2.2.2,by rw[r2];simp,r4,r5,r6,r7,fun c' id h1 h2=>?_⟩
  have cC:xs'.length=len:=by have:=sM _ LJ;rw[List.length_replicate]at this;exact this
  exact .sl h1 h2 (by rw[cC];simp) (Nat.le_refl _) (.inl (by simp))
def Li(listed:Array Bool)(i:Nat):Prop:=listed.getD i false=true
section
variable (ops:List Oper) (bQ:List (Nat×aH)) (EN:Nat→Env) (HS:Nat→List aA) (V:Nat→DV) (B:Nat→Bool) (c:Ctx) (env:Env)
structure qI(listed:Array Bool)(a:Act)(ĉ:Ctx)(m0:Nat):Prop where
 size:listed.size=ops.length
 closed:∀j o,ops[j]?=some o→Li listed j→∀e,e∈o.after.toList→Region.binds .any e=true→Li listed e.on
 asize:a.tmps.size=env.length
 defers:a.defers=[]
 vals:∀(p:Nat) (x:Nat×aH) (t:Nat),bQ[p]?=some x→Li listed x.1→x.2.dst=some t→t<env.length→VR (ĉ.cut (max (aR (HS (p+1))).n m0)) (V p) (a.tmps.getD t Go.undef)
 olds:∀t,(∀(p:Nat) (x:Nat×aH),bQ[p]?=some x→Li listed x.1→x.2.dst≠some t)→VR (ĉ.cut (max (aR (HS 0)).n m0)) ((env[t]?).getD .unk) (a.tmps.getD t Go.undef)
structure kJ(listed:Array Bool)(k:Nat)(ĉ:Ctx):Prop where
 k_le:k≤bQ.length
 front:∀(p:Nat) (x:Nat×aH),p<k→bQ[p]?=some x→x.2.kind≠.read→Li listed x.1
 rel:Rel (aR (HS k)) (ĉ.cut (aR (HS k)).n)
 le:bI c (ĉ.cut (aR (HS k)).n)
 X:ĉ.X=c.X
 E:∀b,ĉ.E b→c.E b∨∃ id,(aR (HS k)).n≤id∧ĉ.ρ id=some (b,0)
 cE:∀b,c.E b→ĉ.E b
 dom:∀id b x,(aR (HS k)).n≤id→ĉ.ρ id=some (b,x)→ĉ.E b∧¬c.E b∧∃ (p:Nat) (y:Nat×aH),k≤p∧bQ[p]?=some y∧Li listed y.1∧y.2.kind≠.read∧B p=true∧id=(aR (HS p)).n
 pend:∀(p:Nat) (x:Nat×aH),k≤p→bQ[p]?=some x→x.2.kind≠.read→Li listed x.1→x.2.op.cls=.alloc ∧
  (B p=true→∃ ety sz xs b,El (EN p) x.2.op=some (ety,sz,xs)∧ĉ.ρ (aR (HS p)).n=some (b,0)∧Jb (ĉ.cut (aR (HS p)).n) b ety sz xs)
 inj:∀id id' b,(aR (HS k)).n≤id→(aR (HS k)).n≤id'→ĉ.ρ id=some (b,0)→ĉ.ρ id'=some (b,0)→id=id'
end
section
variable {P:Program} {call:gY} {ops:List Oper} {bQ:List (Nat×aH)} {bs:List Nat} {E:Nat→Env} {HS:Nat→List aA} {LS:Nat→cA} {V:Nat→DV} {B:Nat→Bool} {c ĉ:Ctx} {env:Env} {h:aA}
 {listed:Array Bool} {a:Act} {k m0:Nat}
theorem AbD{i:Nat}(hl:Li listed i):i<listed.size:=by
 rcases Nat.lt_or_ge i listed.size with h|h
 ·exact h
 ·simp[Li,h]at hl
theorem iH{i j:Nat}(hj:j<listed.size):Li (listed.setIfInBounds j true) i↔Li listed i∨i=j:=by
 unfold Li
 by_cases e:i=j
 ·subst e;simp[hj]
 ·have:(listed.setIfInBounds j true).getD i false=listed.getD i false:=getD_set_ne false (Ne.symm e)
  rw[this];simp[e]
theorem qK(F:Fit P ops bQ bs)(I:qI ops bQ HS V env listed a ĉ m0):∀j,Li listed j→∀i,i<ops.length→mF bs j i=true→Li listed i:=by
 intro j
 induction j using Nat.strongRecOn with
 | _ j ih =>
  intro hj i hi hb
  have aY:j<ops.length:=by rw[←I.size];exact AbD hj
  obtain⟨e,h1,h2,h3⟩:=F.clos j ops[j] i (List.getElem?_eq_getElem aY) hi hb
  have h4:=I.closed j ops[j] (List.getElem?_eq_getElem aY) hj e h1 h2
  rcases h3 with h3|h3
  ·rw[←h3];exact h4
  ·exact ih e.on (F.edge j ops[j] e (List.getElem?_eq_getElem aY) h1 h2).2 h4 i hi h3
structure Up(ops:List Oper)(bQ:List (Nat×aH))(listed:Array Bool)(q:Nat)(x:Nat×aH)(o:Oper):Prop where
 hx:bQ[q]?=some x
 ho:ops[x.1]?=some o
 not:¬Li listed x.1
 all:∀e,e∈o.after.toList→Region.binds .any e=true→Li listed e.on
theorem yM(F:Fit P ops bQ bs)(I:qI ops bQ HS V env listed a ĉ m0){q:Nat}{x:Nat×aH}{o:Oper}(U:Up ops bQ listed q x o){i:Nat}(hi:i<ops.length)(hb:mF bs x.1 i=true):Li listed i:=by
 obtain⟨e,h1,h2,h3⟩:=F.clos x.1 o i U.ho hi hb
 rcases h3 with h3|h3
 ·rw[←h3];exact U.all e h1 h2
 ·exact qK F I e.on (U.all e h1 h2) i hi h3
theorem jR(F:Fit P ops bQ bs){p:Nat}{x:Nat×aH}(hx:bQ[p]?=some x):x.1<ops.length:=by
 obtain⟨o,_,_,_,ho,_⟩:=F.comp p x hx
 exact(List.getElem?_eq_some_iff.1 ho).1
theorem Bc(F:Fit P ops bQ bs){p q:Nat}{x y:Nat×aH}(hx:bQ[p]?=some x)(hy:bQ[q]?=some y)(he:x.1=y.1):p=q:=by
 rcases Nat.lt_trichotomy p q with h|h|h
 ·exact absurd he (F.pair p q x y h hx hy).1
 ·exact h
 ·exact absurd he.symm (F.pair q p y x h hy hx).1
theorem Fh(F:Fit P ops bQ bs){p q:Nat}{x y:Nat×aH}(Mg:p<q)(hx:bQ[p]?=some x)(hy:bQ[q]?=some y){t:Nat}(ht:x.2.dst=some t):y.2.dst≠some t:=by
 have h:=(F.pair p q x y Mg hx hy).2.2
 simp only[vB,Bool.and_eq_true]at h
 have h2:=h.1.1.1.2
 intro e
 simp[ht,e]at h2
theorem Hv(F:Fit P ops bQ bs){p q:Nat}{x y:Nat×aH}(Mg:p<q)(hx:bQ[p]?=some x)(hy:bQ[q]?=some y)(hb:mF bs y.1 x.1=false):Vo x.2 y.2=true:=by
 have h:=(F.pair p q x y Mg hx hy).2.2
 simp only[vB,Bool.and_eq_true,hb,Bool.false_or]at h
 exact h.1.1.1.1
theorem Hs{x y:aH}(h:Vo x y=true):T0 x y=false:=by
 simp only[Vo,Bool.and_eq_true,Bool.not_eq_true']at h
 exact h.1
theorem oV{p:Nat}{x:Nat×aH}(hx:bQ[p]?=some x):(bQ.map (·.2))[p]?=some x.2:=by simp[hx]
theorem qU{p:Nat}{d:aH}(hd:(bQ.map (·.2))[p]?=some d):∃ x,bQ[p]?=some x∧x.2=d:=by
 simp only[List.getElem?_map,Option.map_eq_some_iff]at hd
 exact hd
theorem MC(F:Fit P ops bQ bs)(T:eK call (bQ.map (·.2)) env [h] .start E HS LS V B)(hc:dC call)(hl:h.lim≤h.n)(I:qI ops bQ HS V env listed a ĉ m0){q:Nat}{x:Nat×aH}{o:Oper}(U:Up ops bQ listed q x o)
  {t:Nat} (ht:t∈x.2.reads):VR (ĉ.cut (max (aR (HS q)).n m0)) (((E q)[t]?).getD .unk) (a.tmps.getD t Go.undef):=by
 have hq:q<bQ.length:=(List.getElem?_eq_some_iff.1 U.hx).1
 have Bs:q≤(bQ.map (·.2)).length:=by simp;omega
 by_cases hw:∃ (p:Nat) (y:Nat×aH),p<q∧bQ[p]?=some y∧y.2.dst=some t
 ·obtain⟨p,y,hp,hy,hd⟩:=hw
  have hb:mF bs x.1 y.1=true:=by
   cases hb:mF bs x.1 y.1 with
   | true=>rfl
   | false =>
    have h1:=Hs (Hv F hp hy U.hx hb)
    simp only[T0,hd,Bool.or_eq_false_iff]at h1
    have h2:=h1.1.1
    rw[List.contains_eq_mem]at h2
    simp[ht]at h2
  have hly:=yM F I U (jR F hy) hb
  by_cases aY:t<env.length
  ·rw[T.new (oV hy) hd aY q hp Bs (fun p' d' a1 a2 tN=>by
    obtain⟨y',e1,e2⟩:=qU tN
    subst e2
    exact Fh F a1 hy e1 hd)]
   have hn:=(T.keeps hc hl (by omega:p+1≤q) Bs).n
   exact(I.vals p y t hy hly hd aY).mono (oE (by omega))
  ·rw[List.getElem?_eq_none (by rw[T.len q Bs];omega)]
   exact .unk _
 ·rw[T.old q Bs (fun p d hp hd e=>by
   obtain⟨y,e1,e2⟩:=qU hd
   subst e2
   exact hw ⟨p,y,hp,e1,e⟩)]
  have hn:=(T.keeps hc hl (Nat.zero_le q) Bs).n
  refine(I.olds t fun p y hy hly hd=>?_).mono (oE (by omega))
  rcases Nat.lt_trichotomy p q with hp|hp|hp
  ·exact hw ⟨p,y,hp,hy,hd⟩
  ·subst hp
   have:y=x:=Option.some.inj (hy.symm.trans U.hx)
   subst this
   exact U.not hly
  ·cases hb:mF bs y.1 x.1 with
   | true=>exact U.not (qK F I y.1 hly x.1 (jR F U.hx) hb)
   | false =>
    have h1:=Hs (Hv F hp U.hx hy hb)
    simp only[T0,hd,Bool.or_eq_false_iff]at h1
    have h2:=h1.2
    rw[List.contains_eq_mem]at h2
    simp[ht]at h2
def qR(env:Env)(ts:List Nat):Env:=(List.range env.length).map fun t=>if t∈ts then(env[t]?).getD .unk else .unk
theorem kN{env:Env}{ts:List Nat}:jY ts env (qR env ts):=by
 intro t ht
 by_cases aY:t<env.length
 ·simp[qR,aY,ht]
 ·simp[qR,aY]
theorem Ur(F:Fit P ops bQ bs)(T:eK call (bQ.map (·.2)) env [h] .start E HS LS V B)(hc:dC call)(hl:h.lim≤h.n)(I:qI ops bQ HS V env listed a ĉ m0){q:Nat}{x:Nat×aH}{o:Oper}(U:Up ops bQ listed q x o) :
  bY (ĉ.cut (max (aR (HS q)).n m0)) (qR (E q) x.2.reads) a:=by
 have hq:q<bQ.length:=(List.getElem?_eq_some_iff.1 U.hx).1
 have Bs:q≤(bQ.map (·.2)).length:=by simp;omega
 refine⟨by simp[qR,T.len q Bs,I.asize],I.defers,fun t ht=>?_⟩
 simp only[qR,List.length_map,List.length_range]at ht
 simp only[qR,List.getElem_map,List.getElem_range]
 split
 ·rename_i hm;exact MC F T hc hl I U hm
 ·exact .unk _
theorem Rm{g:Option (Nat×Bool)}{env:Env}{ts:List Nat}(hg:∀t w,g=some (t,w)→t∈ts):fU (qR env ts) g=fU env g:=by
 cases g with
 | none=>rfl
 | some p =>
  obtain⟨t,w⟩:=p
  have ht:=hg t w rfl
  have:(qR env ts)[t]?=env[t]?:=by
   by_cases aY:t<env.length
   ·simp[qR,aY,ht]
   ·simp[qR,aY]
  simp only[fU,this]
end
end Go.Dm
/-
Part 23 of "Dm": a region with an open order: how its state moves on.
-/
namespace Go.Dm
section
variable {P:Program} {call:gY} {ops:List Oper} {bQ:List (Nat×aH)} {bs:List Nat} {E:Nat→Env} {HS:Nat→List aA} {LS:Nat→cA} {V:Nat→DV} {B:Nat→Bool} {c ĉ ĉ1:Ctx} {env:Env} {h:aA}
 {listed:Array Bool} {a:Act} {k m0:Nat}
theorem Vm(a:Act)(dst:Option Nat)(v:Value)(t:Nat):(a.put dst v).tmps.getD t Go.undef=if dst=some t∧t<a.tmps.size then v else a.tmps.getD t Go.undef:=by
 cases dst with
 | none=>simp[Act.put]
 | some d =>
  simp only[Act.put,Array.getD_eq_getD_getElem?,Array.getElem?_setIfInBounds]
  by_cases e:d=t
  ·subst e
   by_cases aY:d<a.tmps.size
   ·simp[aY]
   ·simp[aY]
  ·simp[e]
theorem qI.mark(F:Fit P ops bQ bs)(I:qI ops bQ HS V env listed a ĉ m0)(cD:∀M,bI (ĉ.cut M) (ĉ1.cut M)){m1:Nat}(hm:m0≤m1){q:Nat}{x:Nat×aH}{o:Oper}(U:Up ops bQ listed q x o){v:Value}
  (hv:VR (ĉ1.cut (max (aR (HS (q+1))).n m1)) (V q) v):qI ops bQ HS V env (listed.setIfInBounds x.1 true) (a.put x.2.dst v) ĉ1 m1:=by
 have aY:x.1<listed.size:=by rw[I.size];exact jR F U.hx
 refine⟨by simp[I.size],fun j o' Pz hj e he hb=>?_,?_,?_,fun p y t hy hL hd ht=>?_,fun t Qa=>?_⟩
 ·rw[iH aY]at hj ⊢
  rcases hj with hj|hj
  ·exact .inl (I.closed j o' Pz hj e he hb)
  ·subst hj
   have:o'=o:=Option.some.inj (Pz.symm.trans U.ho)
   subst this
   exact .inl (U.all e he hb)
 ·cases x.2.dst<;>simp[Act.put,I.asize]
 ·cases x.2.dst<;>simp[Act.put,I.defers]
 ·rw[Vm]
  by_cases Mg:p=q
  ·subst Mg
   have:y=x:=Option.some.inj (hy.symm.trans U.hx)
   subst this
   rw[if_pos ⟨hd,by rw[I.asize];exact ht⟩]
   exact hv
  ·have cK:x.2.dst≠some t:=by
    rcases Nat.lt_or_gt_of_ne Mg with h1|h1
    ·exact Fh F h1 hy U.hx hd
    ·exact fun e=>Fh F h1 U.hx hy e hd
   rw[if_neg (fun e=>cK e.1)]
   rw[iH aY]at hL
   have hL:Li listed y.1:=hL.resolve_right fun e=>Mg (Bc F hy U.hx e)
   exact((I.vals p y t hy hL hd ht).mono (cD _)).mono (oE (by omega))
 ·rw[Vm,if_neg (fun e=>Qa q x U.hx ((iH aY).2 (.inr rfl)) e.1)]
  exact((I.olds t fun p y hy hL=>Qa p y hy ((iH aY).2 (.inl hL))).mono (cD _)).mono (oE (by omega))
theorem qI.mono(I:qI ops bQ HS V env listed a ĉ m0)(cD:∀M,bI (ĉ.cut M) (ĉ1.cut M)){m1:Nat}(hm:m0≤m1):qI ops bQ HS V env listed a ĉ1 m1 :=
 ⟨I.size,I.closed,I.asize,I.defers,fun p x t h1 h2 h3 h4=>((I.vals p x t h1 h2 h3 h4).mono (cD _)).mono (oE (by omega)),fun t h1=>((I.olds t h1).mono (cD _)).mono (oE (by omega))⟩
theorem kJ.same(F:Fit P ops bQ bs)(I:qI ops bQ HS V env listed a ĉ m0)(M:kJ bQ E HS B c listed k ĉ){q:Nat}{x:Nat×aH}{o:Oper}(U:Up ops bQ listed q x o)(hk:x.2.kind=.read) :
  kJ bQ E HS B c (listed.setIfInBounds x.1 true) k ĉ:=by
 have aY:x.1<listed.size:=by rw[I.size];exact jR F U.hx
 refine⟨M.k_le,fun p y hp hy Fc=>(iH aY).2 (.inl (M.front p y hp hy Fc)),M.rel,M.le,M.X,M.E,M.cE,fun id b z eF hr=>?_,fun p y hp hy Fc hL=>?_,M.inj⟩
 ·obtain⟨h1,h2,p,y,h3,h4,h5,h6⟩:=M.dom id b z eF hr
  exact⟨h1,h2,p,y,h3,h4,(iH aY).2 (.inl h5),h6⟩
 ·rcases(iH aY).1 hL with h1|h1
  ·exact M.pend p y hp hy Fc h1
  ·have:=Bc F hy U.hx h1
   subst this
   have:y=x:=Option.some.inj (hy.symm.trans U.hx)
   subst this
   exact absurd hk Fc
theorem kJ.idle(F:Fit P ops bQ bs)(I:qI ops bQ HS V env listed a ĉ m0)(M:kJ bQ E HS B c listed k ĉ){q:Nat}{x:Nat×aH}{o:Oper}(U:Up ops bQ listed q x o)(ha:x.2.op.cls=.alloc)(hb:B q=false) :
  kJ bQ E HS B c (listed.setIfInBounds x.1 true) k ĉ:=by
 have aY:x.1<listed.size:=by rw[I.size];exact jR F U.hx
 refine⟨M.k_le,fun p y hp hy Fc=>(iH aY).2 (.inl (M.front p y hp hy Fc)),M.rel,M.le,M.X,M.E,M.cE,fun id b z eF hr=>?_,fun p y hp hy Fc hL=>?_,M.inj⟩
 ·obtain⟨h1,h2,p,y,h3,h4,h5,h6⟩:=M.dom id b z eF hr
  exact⟨h1,h2,p,y,h3,h4,(iH aY).2 (.inl h5),h6⟩
 ·rcases(iH aY).1 hL with h1|h1
  ·exact M.pend p y hp hy Fc h1
  ·have:=Bc F hy U.hx h1
   subst this
   have:y=x:=Option.some.inj (hy.symm.trans U.hx)
   subst this
   exact⟨ha,fun e=>by rw[hb]at e;cases e⟩
theorem kJ.skip(M:kJ bQ E HS B c listed k ĉ)(hk:k<bQ.length)(hh:aR (HS (k+1))=aR (HS k))(hf:∀x:Nat×aH,bQ[k]?=some x→x.2.kind≠.read→Li listed x.1∧B k=false) :
  kJ bQ E HS B c listed (k+1) ĉ:=by
 refine⟨hk,fun p y hp hy Fc=>?_,by rw[hh];exact M.rel,by rw[hh];exact M.le,M.X,by rw[hh];exact M.E,M.cE,fun id b z eF hr=>?_,fun p y hp=>M.pend p y (by omega),by rw[hh];exact M.inj⟩
 ·by_cases e:p=k
  ·subst e;exact(hf y hy Fc).1
  ·exact M.front p y (by omega) hy Fc
 ·rw[hh]at eF
  obtain⟨h1,h2,p,y,h3,h4,h5,h6,h7,h8⟩:=M.dom id b z eF hr
  refine⟨h1,h2,p,y,?_,h4,h5,h6,h7,h8⟩
  by_cases e:p=k
  ·subst e;rw[(hf y h4 h6).2]at h7;cases h7
  ·omega
theorem Rel.early{h:aA}{c:Ctx}(hR:Rel h c){w':World}(jW:w'.heap.size=c.w.heap.size+1)(fR:∀k,k<c.w.heap.size→w'.heap[k]?=c.w.heap[k]?)(hq:lV c.w w') :
  Rel h ⟨w',c.ρ,fun b=>c.O b∨b=c.w.heap.size,c.X,fun b=>c.E b∨b=c.w.heap.size,c.τ⟩∧bI c ⟨w',c.ρ,fun b=>c.O b∨b=c.w.heap.size,c.X,fun b=>c.E b∨b=c.w.heap.size,c.τ⟩:=by
 have cD:bI c ⟨w',c.ρ,fun b=>c.O b∨b=c.w.heap.size,c.X,fun b=>c.E b∨b=c.w.heap.size,c.τ⟩ :=
  ⟨fun _ _ h=>h,by simp only[jW];omega,fun b hb _=>fR b hb,fun b hb=>hb.imp id (fun e=>by omega),fun b e n hs=>by
   have:=Gg hs
   simp only[World.shape?]at hs ⊢
   rw[fR b this];exact hs,fun _ h=>h,fun b hb hE=>⟨hE.resolve_right (by omega),fR b hb⟩,hq,rfl⟩
 have iX:∀b,iI h c.ρ b→b<c.w.heap.size:=fun b ⟨id,o,x,hg,ha,hr⟩=>hR.block_lt hg ha hr
 refine⟨⟨hR.len,hR.lim,hR.dom,fun id o hg=>(hR.obj id o hg).mono cD (fun ha b x hr=>fR b (hR.block_lt hg ha hr)),hR.inj,fun b=>?_,fun b hb hx=>?_,fun b hb=>?_,fun b hb=>?_,hR.glob.mono cD⟩,cD⟩
 ·show c.O b∨_↔iI h c.ρ b∨(c.E b∨_)
  rw[hR.own b,or_assoc]
 ·rcases hb with hb|hb
  ·exact hR.notX b hb hx
  ·have:=hR.old b hx;omega
 ·have:=hR.old b hb
  show b<w'.heap.size
  omega
 ·rcases hb with hb|hb
  ·exact⟨by show b<w'.heap.size;have:=(hR.pend b hb).1;omega,(hR.pend b hb).2⟩
  ·exact⟨by show b<w'.heap.size;omega,fun ho=>by have:=iX b ho;omega⟩
theorem kJ.early(F:Fit P ops bQ bs)(T:eK call (bQ.map (·.2)) env [h] .start E HS LS V B)(hc:dC call)(hl:h.lim≤h.n)(I:qI ops bQ HS V env listed a ĉ m0)(M:kJ bQ E HS B c listed k ĉ)
  {q:Nat} {x:Nat×aH} {o:Oper} (U:Up ops bQ listed q x o) (hkq:k≤q) (Hn:x.2.op.cls=.alloc) {ety sz:Nat} {xs:List DV} (hmd:El (E q) x.2.op=some (ety,sz,xs)) (hb:B q=true)
  {w':World} (jW:w'.heap.size=ĉ.w.heap.size+1) (fR:∀k,k<ĉ.w.heap.size→w'.heap[k]?=ĉ.w.heap[k]?) (hqt:lV ĉ.w w') {cur:Array Value} (Qb:w'.heap[ĉ.w.heap.size]?=some (.cells cur ety (0,0))) (PB:0<sz) (Ff:cur.size=xs.length*sz) (yT:lW cur) (nR:gJ (ĉ.cut (aR (HS q)).n) xs sz cur 0) :
  ∃ ĉ1:Ctx,ĉ1.w=w'∧(∀M,bI (ĉ.cut M) (ĉ1.cut M))∧kJ bQ E HS B c (listed.setIfInBounds x.1 true) k ĉ1∧ĉ1.ρ (aR (HS q)).n=some (ĉ.w.heap.size,0):=by
 have aY:x.1<listed.size:=by rw[I.size];exact jR F U.hx
 have hq:q<bQ.length:=(List.getElem?_eq_some_iff.1 U.hx).1
 have Bs:q<(bQ.map (·.2)).length:=by simp;omega
 have hnk:(aR (HS k)).n≤(aR (HS q)).n:=(T.keeps hc hl hkq (by omega)).n
 have hkind:∀(p:Nat) (y:Nat×aH),bQ[p]?=some y→y.2.op.cls=.alloc→y.2.kind=.create:=fun p y hy ha=>by
  have:=F.kind p y hy
  unfold nO at this
  rw[ha]at this
  cases hk:y.2.kind<;>rw[hk]at this<;>first|rfl|cases this
 have oP:∀(p p':Nat) (y y':Nat×aH),bQ[p]?=some y→bQ[p']?=some y'→y.2.op.cls=.alloc→B p=true→p<p'→(aR (HS p)).n<(aR (HS p')).n:=by
  intro p p' y y' hy WB ha hB F8
  obtain⟨e',s',xs',_,_,h1⟩:=T.alloc (oV hy) ha (hkind p y hy ha) hB
  have LL:p'<(bQ.map (·.2)).length:=by simp;exact(List.getElem?_eq_some_iff.1 WB).1
  have h2:=(T.keeps hc hl (by omega:p+1≤p') (by omega)).n
  rw[h1,Cj]at h2
  omega
 have hnone:ĉ.ρ (aR (HS q)).n=none:=by
  cases hr:ĉ.ρ (aR (HS q)).n with
  | none=>rfl
  | some pr =>
   obtain⟨b,x0⟩:=pr
   obtain⟨_,_,p,y,h3,h4,h5,h6,h7,h8⟩:=M.dom _ b x0 hnk hr
   have ha:=(M.pend p y h3 h4 h6 h5).1
   rcases Nat.lt_trichotomy p q with hh|hh|hh
   ·have:=oP p q y x h4 U.hx ha h7 hh;omega
   ·subst hh
    have:y=x:=Option.some.inj (h4.symm.trans U.hx)
    subst this
    exact absurd h5 U.not
   ·have:=oP q p x y U.hx h4 Hn hb hh;omega
 let ĉ1:Ctx:=⟨w',fun id=>if id=(aR (HS q)).n then some (ĉ.w.heap.size,0)else ĉ.ρ id,fun b=>ĉ.O b∨b=ĉ.w.heap.size,ĉ.X,fun b=>ĉ.E b∨b=ĉ.w.heap.size,ĉ.τ⟩
 have hrho:∀id p,ĉ.ρ id=some p→ĉ1.ρ id=some p:=fun id p hp=>by
  have:id≠(aR (HS q)).n:=fun e=>by subst e;rw[hnone]at hp;cases hp
  simp only[ĉ1,if_neg this];exact hp
 obtain⟨hrel,Vd⟩:=M.rel.early (w':=w') jW fR hqt
 have Kg:ĉ1.cut (aR (HS k)).n=⟨w',(ĉ.cut (aR (HS k)).n).ρ,fun b=>ĉ.O b∨b=ĉ.w.heap.size,ĉ.X,fun b=>ĉ.E b∨b=ĉ.w.heap.size,ĉ.τ⟩:=by
  have:(fun id=>if id<(aR (HS k)).n then ĉ1.ρ id else none)=(ĉ.cut (aR (HS k)).n).ρ:=by
   funext id
   simp only[Ctx.cut]
   split
   ·have:id≠(aR (HS q)).n:=by omega
    simp only[ĉ1,if_neg this]
   ·rfl
  simp only[Ctx.cut]at this ⊢
  rw[this]
 have hleM:∀M,bI (ĉ.cut M) (ĉ1.cut M):=fun M =>
  ⟨fun id p hp=>by
   obtain⟨h1,h2⟩:=qA hp
   rw[gG h1];exact hrho id p h2,Vd.size,Vd.frame,Vd.own,Vd.shape,Vd.X,Vd.pend,Vd.quiet,Vd.tok⟩
 have hElt:∀b,ĉ.E b→b<ĉ.w.heap.size:=fun b hb=>(M.rel.pend b hb).1
 refine⟨ĉ1,rfl,hleM,⟨M.k_le,fun p y hp hy Fc=>(iH aY).2 (.inl (M.front p y hp hy Fc)),by rw[Kg];exact hrel,M.le.trans (hleM _),M.X,fun b hE=>?_,fun b hE=>.inl (M.cE b hE),fun id b z' eF hr=>?_,fun p y hp hy Fc hL=>?_,fun id id' b h1 h2 h3 h4=>?_⟩,by simp[ĉ1]⟩
 ·rcases hE with hE|hE
  ·exact(M.E b hE).imp (fun x=>x) fun⟨id,h1,h2⟩=>⟨id,h1,hrho id _ h2⟩
  ·subst hE;exact .inr ⟨(aR (HS q)).n,hnk,by simp[ĉ1]⟩
 ·by_cases e:id=(aR (HS q)).n
  ·simp only[ĉ1,if_pos e,Option.some.injEq,Prod.mk.injEq]at hr
   refine⟨.inr hr.1.symm,fun hE=>?_,q,x,hkq,U.hx,(iH aY).2 (.inr rfl),?_,hb,e⟩
   ·have:=hElt b (M.cE b hE);omega
   ·rw[hkind q x U.hx Hn];simp
  ·simp only[ĉ1,if_neg e]at hr
   obtain⟨g1,g2,p,y,g3,g4,g5,g6⟩:=M.dom id b z' eF hr
   exact⟨.inl g1,g2,p,y,g3,g4,(iH aY).2 (.inl g5),g6⟩
 ·rcases(iH aY).1 hL with h1|h1
  ·obtain⟨g1,g2⟩:=M.pend p y hp hy Fc h1
   refine⟨g1,fun hB=>?_⟩
   obtain⟨e',s',xs',b,f1,f2,f3⟩:=g2 hB
   have LL:p<(bQ.map (·.2)).length:=by simp;exact(List.getElem?_eq_some_iff.1 hy).1
   have hE:=(M.dom _ b 0 (T.keeps hc hl hp (by omega)).n f2).1
   exact⟨e',s',xs',b,f1,hrho _ _ f2,f3.mono (hleM _) (fR b (hElt b hE))⟩
  ·have:=Bc F hy U.hx h1
   subst this
   have:y=x:=Option.some.inj (hy.symm.trans U.hx)
   subst this
   exact⟨Hn,fun _=>⟨ety,sz,xs,_,hmd,by simp[ĉ1],cur,PB,Ff,yT,fun i hi=>⟨(nR i hi).1,fun j hj=>by
    obtain⟨v,a1,a2,a3⟩:=(nR i hi).2 j hj
    exact⟨v,a1,a2,a3.mono (hleM _)⟩⟩,Qb⟩⟩
 ·by_cases e1:id=(aR (HS q)).n<;>by_cases e2:id'=(aR (HS q)).n
  ·omega
  ·simp only[ĉ1,if_pos e1,if_neg e2,Option.some.injEq,Prod.mk.injEq]at h3 h4
   have:=hElt b (M.dom _ b 0 h2 h4).1
   omega
  ·simp only[ĉ1,if_neg e1,if_pos e2,Option.some.injEq,Prod.mk.injEq]at h3 h4
   have:=hElt b (M.dom _ b 0 h1 h3).1
   omega
  ·simp only[ĉ1,if_neg e1,if_neg e2]at h3 h4
   exact M.inj id id' b h1 h2 h3 h4
end
end Go.Dm
