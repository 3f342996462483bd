/- A part of the proof. -/
import Derived.Test.YtfkbogedodngeaaGreatMm1
import Derived.Laws.BytesString
set_option linter.all false
namespace Go.Dm
section
variable {P:Program} {h h':aA} {c:Ctx} {env:Env} {a:Act} {o:Oper} {r:DV}
theorem JP:∀{ys:List DV} {s:List UInt8},ys.mapM Ph=some s→∃ ns:List Int,ys=ns.map (DV.int .u8)∧s=ns.map fun n=>UInt8.ofNat n.toNat:=by
 intro ys
 induction ys with
 | nil=>intro s h;simp at h;subst h;exact⟨[],rfl,rfl⟩
 | cons y ys ih =>
  intro s h
  simp only[List.mapM_cons,Option.pure_def,Option.bind_eq_bind,Option.bind_eq_some_iff]at h
  obtain⟨b,hb,t,ht,h⟩:=h
  cases h
  obtain⟨ns,rfl,rfl⟩:=ih ht
  unfold Ph at hb
  split at hb
  ·rename_i n
   cases hb
   exact⟨n::ns,rfl,rfl⟩
  ·cases hb
theorem Xs:∀(ns:List Int) (b:ByteArray),ns.foldl (fun r n=>r.push (UInt8.ofNat n.toNat)) b=⟨b.data++(ns.map fun n=>UInt8.ofNat n.toNat).toArray⟩:=by
 intro ns
 induction ns with
 | nil=>intro b;cases b;simp
 | cons n ns ih =>
  intro b
  rw[List.foldl_cons,ih]
  cases b
  simp[ByteArray.push]
theorem Wx{src dst e:TypeId}{x:Operand}{x':Opd}(ho:o.op=.convert src dst x)(hs1:P.underlying src=some (.slice e))(hs2:P.underlying dst=some .string)(he:P.underlying e=some (.int .u8))(hx:opd x=some x')(hR:Rel h c)(hE:cI c env a)
  (hs:aC h env (.bytesStr x')=some (r,h')):fK P h c o a h' r:=by
 have vx:=bI hx hE
 simp only[aC]at hs
 split at hs
 ·rename_i ys yN
  split at hs
  ·rename_i s hm
   simp only[Option.some.injEq,Prod.mk.injEq]at hs
   obtain⟨rfl,rfl⟩:=hs
   obtain⟨ns,rfl,rfl⟩:=JP hm
   obtain⟨ad,cap,news,q1,q2,q3,q4,q5⟩:=lM hR yN vx
   have hconv:(convert src dst (a.eval x)).run P c.w=.ok (.string ⟨(ns.map fun n=>UInt8.ofNat n.toNat).toArray⟩) c.w:=by
    rw[q1,run_convert_bytes_string c.w src dst e _ _ _ hs1 he hs2]
    cases ad with
    | none =>
     have:=q4 rfl
     have:ns=[]:=by simpa using this
     subst this
     rfl
    | some adr =>
     have hnews:news=ns.map (Value.int .u8):=by
      obtain⟨w1,w2,w3⟩:=q3
      apply List.ext_getElem?
      intro i
      by_cases hi:i<ns.length
      ·obtain⟨_,w4⟩:=w3 i (.int .u8 ns[i]) (by simp[hi])
       obtain⟨u,w5,w6⟩:=w4 0 (.int .u8 ns[i]) rfl
       have:=w6.int_inv
       subst this
       simp at w5
       rw[w5];simp[hi]
      ·rw[List.getElem?_eq_none (by simp at w1;omega),List.getElem?_eq_none (by simpa using Nat.le_of_not_lt hi)]
     have hl:(loadCells adr (ns.map (DV.int .u8)).length).run P c.w=.ok (ns.map (Value.int .u8)).toArray c.w:=by
      have:=run_loadCells_list (P:=P) c.w adr news (fun j v hj=>q5 adr rfl j v hj)
      rw[hnews]at this
      simpa using this
     rw[run_bytesToString c.w adr _ cap ns hl,Xs]
     simp[ByteArray.empty,ByteArray.emptyWithCapacity]
     try rfl
   exact⟨.value (.string ⟨(ns.map fun n=>UInt8.ofNat n.toNat).toArray⟩),_,c.w,by simp[execOp,ho,hconv],.inl rfl,lF.pure hR (.str _)⟩
  ·cases hs
 ·cases hs
theorem Rp(t:List UInt8):jF c 1 (t.map fun b=>DV.int .u8 b.toNat) (t.map fun b=>Value.int .u8 b.toNat):=by
 refine⟨by simp,fun u hu=>?_,fun i d hd=>?_⟩
 ·simp only[List.mem_map]at hu
  obtain⟨b,_,rfl⟩:=hu
  rfl
 ·rw[List.getElem?_map]at hd
  simp only[Option.map_eq_some_iff]at hd
  obtain⟨b,hb,rfl⟩:=hd
  refine⟨rfl,fun j e he=>?_⟩
  match j,he with
  | 0,he =>
   cases he
   exact⟨.int .u8 b.toNat,by simp[hb],.int _ _⟩
  | j+1,he=>simp[aF]at he
theorem Tv(t:List UInt8):(ByteArray.extract ⟨t.toArray⟩ 0 t.length).data=t.toArray:=by
 rw[ByteArray.data_extract]
 simp
theorem U4(t:List UInt8)(sz:Nat)(w:World):(Builtin.firstCells sz t.length (.string ⟨t.toArray⟩)).run P w=.ok (t.map fun b=>Value.int .u8 b.toNat).toArray w:=by
 unfold Builtin.firstCells
 simp only[Tv]
 simp
theorem S9(t:List UInt8)(w:World):(Builtin.lenOf (.string ⟨t.toArray⟩)).run P w=.ok t.length w:=by
 simp[Builtin.lenOf,ByteArray.size]
theorem O0{t u e:TypeId}{bytes:Nat}{z:DV}{s x:Operand}{s' x':Opd}(ho:o.op=.call {callee:=.builtin .append,args:=#[s,x],argTypes:=#[t,u]})(ht:P.underlying t=some (.slice e))(hu:P.underlying u=some .string)
  (he:dY P e=some (1,bytes,z)) (Ar:opd s=some s') (hx:opd x=some x') (hR:Rel h c) (hE:cI c env a) (hs:aC h env (.appendS e 1 bytes s' x')=some (r,h')):fK P h c o a h' r:=by
 have vs:=bI Ar hE
 have vx:=bI hx hE
 obtain⟨i,z0,hi,e1,e2,hz,yM,eI,dD⟩:=fA he
 subst e2
 obtain⟨hz3,JZ,hz4⟩:=dQ dD (eM yM c)
 have Ky:∀j (hj:j<z0.cells.size),(z0.cells[j]).oneCell'=true:=fun j hj=>(hz4 j (by omega) hj).2
 simp only[aC]at hs
 split at hs
 ·rename_i str hstr
  rw[hstr]at vx
  have dN:=vx.str_inv
  have hfirst:=fun w=>U4 (P:=P) str 1 w
  have hlenof:=fun w=>S9 (P:=P) str w
  obtain⟨v',w',h1,h2⟩:=rP (P:=P) hR (by omega) (Rp (c:=c) str) (run:=fun v=>(Builtin.append_ #[t,u] o.type #[v,a.eval x]).run P c.w)
   (fun hy base sLen sCap cM=>by
    have:str=[]:=by simpa using hy
    subst this
    rw[dN]
    have hf:=hfirst c.w
    have hl:=hlenof c.w
    simp only[List.length_nil,List.map_nil]at hf hl
    cases base<;>simp[Builtin.append_,run_underlying ht,run_underlying hu,sizeOf,typeInfo,hi,hl,cM,hf,e1,storeCells])
   (fun b co sLen sCap cur ety g1 mI _ lW=>by
    rw[dN]
    have dD:=jM (P:=P) g1 _ lW (Rp (c:=c) str).2.1
    have hf:=hfirst c.w
    have hl:=hlenof c.w
    simp only[List.length_map,Nat.mul_one]at mI dD ⊢
    simp[Builtin.append_,run_underlying ht,run_underlying hu,sizeOf,typeInfo,hi,hl,mI,hf,Addr.add_lit,e1,dD])
   (fun base sLen sCap olds GR hg h63 hb=>by
    simp only[List.length_map]at hg h63 hb ⊢
    refine⟨_,Builtin.zeroCells z0.cells (grownCap c.w (sLen+str.length) sCap e-(sLen+str.length)),grownCap_ge _ _ _ _,⟨by rw[cU,JZ],tI Ky⟩,?_⟩
    rw[dN]
    have hf:=hfirst c.w.drew
    have hl:=hlenof c.w
    have hn:¬(sLen+str.length≤sCap):=by omega
    have h63':¬(9223372036854775807<((sLen:Int)+(str.length:Int))):=by omega
    have Ze:¬(281474976710656<Builtin.nextslicecap (sLen+str.length) sCap*i.bytes):=by have:=growslice_fits hg hb;omega
    simp[e1,Builtin.append_,run_underlying ht,run_underlying hu,sizeOf,typeInfo,zeroValue,hi,hz,hl,hn,h63',Ze,Question.forced,hf,GR,newRow,grownCap]
    congr 2
    apply Array.ext'
    simp[List.append_assoc])
   vs hs
  exact⟨.value v',v',w',by rw[cP ho];simp[builtin,h1],.inl rfl,h2⟩
 ·cases hs
end
end Go.Dm
/-
Part 15 of "Dm": every operation that is no call does what the machine says.
-/
namespace Go.Dm
def kS:DOp→Bool
 | .alloc ..|.box ..|.buildSlice ..|.store ..|.append ..|.appendZ ..|.copy ..|.clear ..|.makeSlice ..|.makeMap|.mapUpdate ..|.delete ..|.range ..|.next ..|.entry ..|.bytesStr ..|.appendS ..|.call ..=>true
 | _=>false
def B8(P:Program)(h:aA)(c:Ctx)(o:Oper)(a:Act)(h':aA)(r:DV)(d:DOp):Prop :=
 match kS d with
 | true=>fK P h c o a h' r
 | false=>bB P h c o a h' r
section
variable {P:Program} {h h':aA} {c:Ctx} {env:Env} {a:Act} {o:Oper} {r:DV}
theorem LX{d:DOp}(hc:gJ P o=some d)(hnc:∀f as,d≠.call f as)(hR:Rel h c)(hE:cI c env a)(hs:aC h env d=some (r,h')):B8 P h c o a h' r d:=by
 unfold gJ at hc
 split at hc
 ·rename_i x ho
  simp only[Option.map_eq_some_iff]at hc
  obtain⟨x',hx,rfl⟩:=hc
  exact BR (.inl ho) hx hR hE hs
 ·rename_i x ho
  simp only[Option.map_eq_some_iff]at hc
  obtain⟨x',hx,rfl⟩:=hc
  exact BR (.inr ho) hx hR hE hs
 ·rename_i x y z ho
  split at hc
  ·rename_i x' y' z' hx hy hz;cases hc;exact NU ho hx hy hz hR hE hs
  ·cases hc
 ·rename_i e ho
  split at hc
  ·rename_i sz b z he;cases hc;exact IQ ho he hR hE hs
  ·cases hc
 ·rename_i e x ho
  split at hc
  ·rename_i sz b z x' he hx;cases hc;exact QW ho he hx hR hE hs
  ·cases hc
 ·rename_i t parts ho
  split at hc
  ·rename_i fs sz b z ht he
   split at hc
   ·rename_i ps hp
    split at hc
    ·rename_i gO;cases hc;exact Iy ho ht he hp gO hR hE hs
    ·cases hc
   ·cases hc
  ·rename_i n e sz b z ht he
   split at hc
   ·rename_i esz eb ez Oh
    split at hc
    ·rename_i ps hp;cases hc;exact Mt ho ht he Oh hp hR hE hs
    ·cases hc
   ·cases hc
  ·cases hc
 ·rename_i t len parts ho
  split at hc
  ·rename_i e ht
   split at hc
   ·rename_i sz b z he
    split at hc
    ·rename_i ps hp
     split at hc
     ·rename_i hsm;cases hc;exact Ms ho ht he hp hsm hR hE hs
     ·cases hc
    ·cases hc
   ·cases hc
  ·cases hc
 ·rename_i t x ho
  split at hc
  ·rename_i n x' hn hx;cases hc;exact NV ho hn hx hR hE hs
  ·cases hc
 ·rename_i t x y ho
  split at hc
  ·rename_i i x' y' hi hx hy
   split at hc
   ·cases hc;exact IK ho hi hx hy hR hE hs
   ·cases hc
  ·cases hc
 ·rename_i x ho
  simp only[Option.map_eq_some_iff]at hc
  obtain⟨x',hx,rfl⟩:=hc
  exact Wt ho hx hR hE hs
 ·rename_i op t x y u ho
  split at hc
  ·rename_i x' y' hx hy
   split at hc
   ·cases hc;exact D8 ho hx hy hR hE hs
   ·cases hc;exact D8 ho hx hy hR hE hs
   ·rename_i hu
    split at hc
    ·cases hc;exact MA (neq:=false) (by simpa using ho) hu hx hy hR hE hs
    ·cases hc;exact MA (neq:=true) (by simpa using ho) hu hx hy hR hE hs
    ·cases hc
   ·rename_i fs hu
    split at hc
    ·rename_i ks hk;cases hc;exact D7 (neq:=false) (by simpa using ho) (by simp[dX,hu]) hk hx hy hR hE hs
    ·rename_i ks hk;cases hc;exact D7 (neq:=true) (by simpa using ho) (by simp[dX,hu]) hk hx hy hR hE hs
    ·cases hc
   ·rename_i n e hu
    split at hc
    ·rename_i ks hk;cases hc;exact D7 (neq:=false) (by simpa using ho) (by simp[dX,hu]) hk hx hy hR hE hs
    ·rename_i ks hk;cases hc;exact D7 (neq:=true) (by simpa using ho) (by simp[dX,hu]) hk hx hy hR hE hs
    ·cases hc
   ·rename_i desc _ _ _ _ _ hu
    split at hc
    ·rename_i k hk
     split at hc
     ·rename_i uJ
      split at hc
      ·cases hc;exact LZ (neq:=false) (by simpa using ho) hu hk uJ hx hy hR hE hs
      ·cases hc;exact LZ (neq:=true) (by simpa using ho) hu hk uJ hx hy hR hE hs
      ·cases hc
     ·cases hc
    ·cases hc
   ·cases hc
  ·cases hc
 ·rename_i op t x ho
  simp only[Option.map_eq_some_iff]at hc
  obtain⟨x',hx,rfl⟩:=hc
  exact SE ho hx hR hE hs
 ·rename_i src dst x ho
  split at hc
  ·rename_i k0 k x' h1 h2 hx;cases hc;exact NX ho h1 h2 hx hR hE hs
  ·rename_i x' h1 h2 hx;cases hc;exact IP ho h1 h2 hx hR hE hs
  ·rename_i e x' h1 h2 hx
   split at hc
   ·rename_i h3;cases hc;exact Wx ho h1 h2 (JW h3) hx hR hE hs
   ·cases hc;exact(mX hs).elim
  ·cases hc;exact(mX hs).elim
 ·rename_i f first cap ho
  split at hc
  ·rename_i hf
   split at hc
   ·rename_i c' hU;cases hc;exact Wu ho hf hU hR hE hs
   ·cases hc
  ·cases hc
 ·rename_i s x f ho
  split at hc
  ·rename_i fs x' hu hx
   split at hc
   ·rename_i fl hf
    split at hc
    ·rename_i i hi
     split at hc
     ·rename_i eI;cases hc;exact Rh ho hu hf hi eI hx hR hE hs
     ·cases hc
    ·cases hc
   ·cases hc
  ·cases hc
 ·rename_i s x f ho
  split at hc
  ·rename_i fs x' hu hx
   split at hc
   ·rename_i fl hf
    split at hc
    ·rename_i n hn;cases hc;exact IM ho hu hf hn hx hR hE hs
    ·cases hc
   ·cases hc
  ·cases hc
 ·rename_i t x i ho
  split at hc
  ·rename_i e x' i' hu hx hi
   split at hc
   ·rename_i fi Zb
    split at hc
    ·rename_i eI;cases hc;exact Rg ho hu Zb eI hx hi hR hE hs
    ·cases hc
   ·cases hc
  ·rename_i len e x' i' hu hx hi
   split at hc
   ·rename_i fi Zb
    split at hc
    ·rename_i eI;cases hc;exact Ww ho hu Zb hx hi hR hE hs
    ·cases hc
   ·cases hc
  ·cases hc
 ·rename_i t x i ho
  split at hc
  ·rename_i len e x' i' hu hx hi
   split at hc
   ·rename_i fi n Zb hn;cases hc;exact IL ho hu Zb hn hx hi hR hE hs
   ·cases hc
  ·rename_i x' i' hu hx hi;cases hc;exact Wv ho hu hx hi hR hE hs
  ·cases hc
 ·rename_i t x lo hi ho
  split at hc
  ·rename_i x' lo' oP hu hx dM Dh;cases hc;exact Ws ho hu hx dM Dh hR hE hs
  ·rename_i e x' lo' oP hu hx dM Dh
   split at hc
   ·rename_i fi Zb
    split at hc
    ·rename_i eI;cases hc;exact N6 ho hu Zb eI hx dM Dh hR hE hs
    ·cases hc
   ·cases hc
  ·cases hc
 ·rename_i t x lo hi mx ho
  split at hc
  ·rename_i e x' lo' oP mx' hu hx dM Dh hmx
   split at hc
   ·rename_i fi Zb;cases hc;exact BQ ho hu Zb hx dM Dh hmx hE hs
   ·cases hc
  ·cases hc
 ·rename_i t l m ho
  split at hc
  ·rename_i e hu
   split at hc
   ·rename_i sz b z l' m' he hl hm;cases hc;exact Re ho hu he hl hm hR hE hs
   ·cases hc
  ·cases hc
 ·rename_i t ho
  cases hc;exact N7 ho hR hE hs
 ·rename_i t m k ok ho
  split at hc
  ·rename_i key e hu
   split at hc
   ·rename_i sz b z m' k' q he hm hk hq;cases hc;exact BS ho hu he hq hm hk hR hE hs
   ·cases hc
  ·cases hc
 ·rename_i t m k x ho
  split at hc
  ·rename_i key e hu
   split at hc
   ·rename_i m' k' x' q hm hk hx hq;cases hc;exact Ce (.inl ho) hu hq hm hk hx hR hE hs
   ·cases hc
  ·cases hc
 ·rename_i t m k x ho
  split at hc
  ·rename_i key e hu
   split at hc
   ·rename_i m' k' x' q hm hk hx hq;cases hc;exact Ce (.inr ho) hu hq hm hk hx hR hE hs
   ·cases hc
  ·cases hc
 ·rename_i x i ho
  simp only[Option.map_eq_some_iff]at hc
  obtain⟨x',hx,rfl⟩:=hc
  exact N8 ho hx hR hE hs
 ·rename_i t x ho
  split at hc
  ·cases hc;cases hs
  ·cases hc;exact(mX hs).elim
 ·rename_i x sb ho
  split at hc
  ·cases hc;exact(mX hs).elim
  ·rename_i hsb
   simp only[Option.map_eq_some_iff]at hc
   obtain⟨x',hx,rfl⟩:=hc
   cases hs
 ·rename_i x ho
  simp only[Option.map_eq_some_iff]at hc
  obtain⟨x',hx,rfl⟩:=hc
  cases hs
 ·rename_i t x ho
  split at hc
  ·cases hc
  ·rename_i desc x' OU hu hx
   cases hc
   exact Rf ho hu (fun ms e=>OU ms (e ▸ rfl)) hx hR hE hs
  ·cases hc
 ·rename_i b args ats ho
  have conv1:∀{x:Operand} {t:TypeId},args.toList=[x]→ats.toList=[t]→o.op=.call {callee:=.builtin b,args:=#[x],argTypes:=#[t]}:=by
   intro x t h1 h2
   rw[ho]
   have e1:args=#[x]:=by apply Array.ext';simpa using h1
   have e2:ats=#[t]:=by apply Array.ext';simpa using h2
   rw[e1,e2]
  have conv2:∀{x y:Operand} {t u:TypeId},args.toList=[x,y]→ats.toList=[t,u]→o.op=.call {callee:=.builtin b,args:=#[x,y],argTypes:=#[t,u]}:=by
   intro x y t u h1 h2
   rw[ho]
   have e1:args=#[x,y]:=by apply Array.ext';simpa using h1
   have e2:ats=#[t,u]:=by apply Array.ext';simpa using h2
   rw[e1,e2]
  have conv3:∀{x y:Operand},args.toList=[x,y]→o.op=.call {callee:=.builtin b,args:=#[x,y],argTypes:=ats}:=by
   intro x y h1
   rw[ho]
   have e1:args=#[x,y]:=by apply Array.ext';simpa using h1
   rw[e1]
  split at hc
  ·rename_i x t ha ht
   split at hc
   ·rename_i x' hu hx;cases hc;exact BU (conv1 ha ht) hu rfl hx hR hE hs
   ·rename_i e x' hu hx;cases hc;exact BU (conv1 ha ht) hu rfl hx hR hE hs
   ·rename_i k e x' hu hx;cases hc;exact BU (conv1 ha ht) hu rfl hx hR hE hs
   ·rename_i n e x' hu hx;cases hc;exact BT (_x':=x') (conv1 ha ht) hu hR hE hs
   ·cases hc
  ·rename_i x t ha ht
   split at hc
   ·rename_i e x' hu hx;cases hc;exact QV (conv1 ha ht) hu hx hR hE hs
   ·cases hc
  ·rename_i s x t u ha ht
   split at hc
   ·rename_i e hu
    split at hc
    ·rename_i sz b' z s' x' e' he Ar hx ME
     split at hc
     ·rename_i Oh;subst Oh;cases hc;exact BW (conv2 ha ht) hu ME he Ar hx hR hE hs
     ·cases hc
    ·rename_i sz b' z s' x' k he Ar hx ME;cases hc;exact N9 (conv2 ha ht) hu ME he Ar hx hR hE hs
    ·rename_i sz b' z s' x' he Ar hx ME
     split at hc
     ·rename_i h3;obtain⟨h3,_⟩:=h3;subst h3;cases hc;exact O0 (conv2 ha ht) hu ME he Ar hx hR hE hs
     ·cases hc
    ·cases hc
   ·cases hc
  ·rename_i d s t u ha ht
   split at hc
   ·rename_i e e' hu ME
    split at hc
    ·rename_i fi d' s' Zb hd Ar
     split at hc
     ·cases hc;exact NW (conv2 ha ht) hu Zb hd Ar hR hE hs
     ·cases hc
    ·cases hc
   ·cases hc
  ·rename_i x t ha ht
   split at hc
   ·rename_i e hu
    split at hc
    ·rename_i sz b' z x' he hx;cases hc;exact IN (conv1 ha ht) hu he hx hR hE hs
    ·cases hc
   ·cases hc
  ·rename_i m k t u ha ht
   split at hc
   ·rename_i key e hu
    split at hc
    ·rename_i m' k' q hm hk hq;cases hc;exact BV (conv2 ha ht) hu hq hm hk hR hE hs
    ·cases hc
   ·cases hc
  ·rename_i x y ha
   split at hc
   ·rename_i x' y' hx hy;cases hc;exact Rd (mx:=true) (by simpa using conv3 ha) hx hy hR hE hs
   ·cases hc
  ·rename_i x y ha
   split at hc
   ·rename_i x' y' hx hy;cases hc;exact Rd (mx:=false) (by simpa using conv3 ha) hx hy hR hE hs
   ·cases hc
  ·cases hc;exact(mX hs).elim
 ·rename_i f args ats ho
  split at hc
  ·cases hc;exact absurd rfl (hnc _ _)
  ·cases hc
 ·cases hc;exact(mX hs).elim
theorem Wo{d:DOp}(hc:gJ P o=some d)(hnc:∀f as,d≠.call f as)(hR:Rel h c)(hE:cI c env a)(hs:aC h env d=some (r,h')):fK P h c o a h' r:=by
 have:=LX hc hnc hR hE hs
 unfold B8 at this
 split at this
 ·exact this
 ·exact this.toSteps1 hR
theorem Xq{d:DOp}(hc:gJ P o=some d)(ht:kS d=false)(hR:Rel h c)(hE:cI c env a)(hs:aC h env d=some (r,h')):bB P h c o a h' r:=by
 have:=LX hc (fun f as e=>by subst e;simp[kS]at ht) hR hE hs
 unfold B8 at this
 rw[ht]at this
 exact this
end
end Go.Dm
/-
Part 16 of "Dm": code brought into the machine's form.
-/
namespace Go.Dm
def Ok(ops:List Oper):Option (Nat×Bool)→Option (Option (Nat×Bool))
 | none=>some none
 | some (j,want)=>match ops[j]? with
  | some g=>match g.dst with
   | some t=>some (some (t,want))
   | none=>none
  | none=>none
def dI(P:Program)(ops:List Oper)(kind:sO)(snap:Nat)(o:Oper):Option aJ :=
 match gJ P o,Ok ops o.guard with
 | some d,some g=>some {dst:=o.dst,op:=d,guard:=g,kind,snap,calm:=false}
 | _,_=>none
def bits(ops:List Oper):List Nat :=
 ops.foldl (fun nV o=>nV++[o.after.toList.foldl (fun s e=>if Region.binds .any e then s ||| 2 ^ e.on ||| nV.getD e.on 0 else s) 0]) []
inductive Cls where
 | env|read|alloc|heap
 deriving DecidableEq,Inhabited
def DOp.cls:DOp→Cls
 | .len 2 _|.load ..|.sliceSl ..|.cap ..|.lookup ..=>.read
 | .alloc ..|.buildSlice ..=>.alloc
 | d=>if kS d then .heap else .env
def T0(cs:List Cls)(bs:List Nat):List Nat :=
 let r:=(List.range cs.length).foldl (fun(st:List Nat×List Nat) j =>
  match cs.getD j .env with
  | .env|.alloc=>(st.1,st.2++[j])
  | _=>(st.1++st.2.filter (fun i=>(bs.getD j 0).testBit i)++[j],st.2.filter fun i=>!(bs.getD j 0).testBit i)) ([],[])
 r.1++r.2
def Opd.tmps:Opd→List Nat
 | .t n=>[n]
 | .c _=>[]
def Nj:Option Opd→List Nat
 | none=>[]
 | some x=>x.tmps
def DOp.tmps:DOp→List Nat
 | .alloc ..|.makeMap=>[]
 | .move x|.box _ _ x|.load _ x|.nilCheck x|.un _ x|.conv _ x|.asStr x|.fieldAddr _ x|.field _ _ x|.len _ x|.cap x|.clear _ _ x|.extract x _|.makeIface _ x|.range x|.next x|.entry x|.bytesStr x=>x.tmps
 | .pick c a b=>c.tmps++a.tmps++b.tmps
 | .build _ parts=>parts.flatMap fun p=>p.2.2.tmps
 | .buildSlice _ _ _ _ parts=>parts.flatMap fun p=>p.2.tmps
 | .store _ x y|.arith _ x y|.eqb _ x y|.eqa _ _ x y|.eqn _ _ x y|.indexAddr _ x y|.indexArr _ _ x y|.index _ _ _ x y|.indexStr x y
 | .append _ _ _ x y|.appendZ _ _ _ _ x y|.appendS _ _ _ x y|.copy _ x y|.makeSlice _ _ _ _ x y|.minmax _ x y|.lookup _ _ _ x y|.delete _ x y=>x.tmps++y.tmps
 | .mapUpdate _ x y z=>x.tmps++y.tmps++z.tmps
 | .sliceStr x lo hi|.sliceSl _ x lo hi=>x.tmps++Nj lo++Nj hi
 | .slice3 x lo hi mx=>x.tmps++lo.tmps++hi.tmps++mx.tmps
 | .makeFunc _ l=>l.flatMap Opd.tmps
 | .call f as=>f.tmps++as.flatMap Opd.tmps
def aJ.reads(o:aJ):List Nat:=o.op.tmps++(match o.guard with|some (t,_)=>[t]|none=>[])
def I6(x y:aJ):Bool :=
 (match x.dst with|some d=>y.reads.contains d || y.dst == some d|none=>false) ||
 (match y.dst with|some d=>x.reads.contains d|none=>false)
def Tp(x y:aJ):Bool :=
 !I6 x y &&
 match x.op.cls,y.op.cls with
 | .env,_|_,.env=>true
 | _,.alloc=>true
 | .alloc,.read=>true
 | .alloc,.heap=>false
 | .heap,.heap=>false
 | .read,.read=>true
 | .heap,.read=>true
 | .read,.heap=>true
def nR(d:aJ):Bool :=
 match d.op.cls,d.kind with
 | .env,.read|.read,.read|.alloc,.create|.heap,.create|.heap,.write=>true
 | _,_=>false
def uY(b:Bool)(rp:Nat)(x y:aJ):Bool :=
 (b || Tp x y) && (x.dst.isNone || x.dst != y.dst) &&
 (!(y.op.cls == .read && x.kind != .read) || (if rp<y.snap then b else x.op.cls == .alloc || (!b && x.kind == .create && decide (y.snap≤x.snap)))) &&
 (!(x.op.cls == .read && y.op.cls == .heap) || b || (y.kind == .create && decide (x.snap≤y.snap))) &&
 (!(x.calm && y.op.cls == .heap) || b)
def mJ(bs:List Nat)(j i:Nat):Bool:=(bs.getD j 0).testBit i
def Be(ds:List (Nat×aJ))(p:Nat):Nat:=((ds.take p).filter fun x=>x.2.kind != .read).length
def FL(ops:List Oper)(ds:List (Nat×aJ))(bs:List Nat):Bool :=
 ops.zipIdx.all (fun x=>x.1.after.toList.all fun e=>!Region.binds .any e || (mJ bs x.2 e.on && decide (e.on<x.2))) &&
 ops.zipIdx.all (fun x=>(List.range ops.length).all fun i=>!mJ bs x.2 i || x.1.after.toList.any fun e=>Region.binds .any e && (e.on == i || mJ bs e.on i)) &&
 (List.range ops.length).all (fun i=>ds.any fun x=>x.1 == i) &&
 ds.all (fun x=>nR x.2) &&
 ds.zipIdx.all (fun y=>(ds.take y.2).zipIdx.all fun x=>x.1.1 != y.1.1 && !mJ bs x.1.1 y.1.1 && uY (mJ bs y.1.1 x.1.1) (Be ds x.2) x.1.2 y.1.2)
def BL(cs:List Cls)(ord:List Nat)(b:Nat):Nat :=
 ((ord.filter fun i=>cs.getD i .env == .heap || cs.getD i .env == .alloc).takeWhile fun i=>b.testBit i).length
def Yp(cs:List Cls)(bs:List Nat)(j:Nat):sO :=
 match cs.getD j .env with
 | .env|.read=>.read
 | .alloc=>.create
 | .heap=>if(List.range cs.length).all fun i=>cs.getD i .env != .read || (bs.getD j 0).testBit i || (bs.getD i 0).testBit j then .write else .create
def RJ(cs:List Cls)(ord:List Nat)(bs:List Nat)(j:Nat):Nat :=
 (List.range cs.length).foldl (fun s i=>if cs.getD i .env == .read && !(bs.getD j 0).testBit i && !(bs.getD i 0).testBit j then max s (BL cs ord (bs.getD i 0))else s) 0
def PP(dops:List DOp)(cs:List Cls)(bs:List Nat)(i:Nat):Bool :=
 cs.getD i .env == .read &&
 ((List.range cs.length).any fun j=>(match dops[j]? with|some (.store ..)=>true|_=>false) && Yp cs bs j == .create) &&
 (List.range cs.length).all fun j=>cs.getD j .env != .heap || (bs.getD j 0).testBit i || (bs.getD i 0).testBit j
def fI(P:Program)(ops:List Oper)(draw:Bool):Option aN :=
 if draw then
  match ops.mapM (gJ P)with
  | none=>none
  | some dops =>
   let bs:=bits ops
   let cs:=dops.map DOp.cls
   let ord:=T0 cs bs
   match ord.mapM (fun i=>match ops[i]? with
    | some o=>(dI P ops (Yp cs bs i) (if Yp cs bs i=sO.create then RJ cs ord bs i else BL cs ord (bs.getD i 0)) o).map fun(d:aJ)=>(i,({d with calm:=PP dops cs bs i}:aJ))
    | none=>none)with
   | some ds=>if FL ops ds bs then some (.draw (ds.map (·.2)))else none
   | none=>none
 else match ops.mapM (dI P ops .write 0)with
  | some ds=>some (.region ds)
  | none=>none
def Np:aN→Bool
 | .walk ..=>false
 | _=>true
def JY:DOp→Bool
 | .move (.c _)=>true
 | _=>false
def Yg(ops:List aJ):List (Nat×Nat):=ops.flatMap fun o=>o.reads.map (fun t=>(0,t))++(match o.dst with|some d=>[(if JY o.op then 2 else 1,d)]|none=>[])
def aN.occ:aN→List (Nat×Nat)
 | .seq a b=>a.occ++b.occ
 | .cond c a b=>c.tmps.map (fun t=>(0,t))++(a.occ++b.occ)
 | .block _ b|.loop b=>b.occ
 | .region ops|.draw ops=>Yg ops
 | .walk x it nx ok en _ _ _ ops b=>x.tmps.map (fun t=>(0,t))++([(1,it),(1,nx),(1,ok),(1,en)]++(Yg ops++b.occ))
 | _=>[]
def JV(l:List (Nat×Nat)):List Nat :=
 let st:=l.foldl (fun(st:List Nat×List Nat) o=>if st.1.contains o.2 then st else(o.2::st.1,if o.1=0 then st.2 else o.2::st.2)) ([],[])
 st.2.filter fun t=>l.any fun o=>o.1 == 1 && o.2 == t
def uL:aN→aN→Option aN
 | .region ds,.block X (.loop (.seq (.region [⟨some nx,.next (.t it),none,_,_,_⟩,⟨some ok,.extract (.t nx') 0,none,_,_,_⟩]) (.seq (.cond (.t ok') .skip (.exit X')) (.block Y (.seq (.region (⟨some en,.entry (.t it'),none,_,_,_⟩::ops)) b))))) =>
  match ds.getLast? with
  | some ⟨some it2,.range x,none,_,_,_⟩ =>
   if(it2=it∧it'=it∧nx'=nx∧ok'=ok∧X'=X)∧Np b=true∧it≠nx∧it≠ok then
    some (.seq (.region ds.dropLast) (.walk x it nx ok en X Y (it::nx::ok::en::JV ((1,en)::(Yg ops++b.occ))) ops b))else none
  | _=>none
 | _,_=>none
def Gb(a b:aN):aN:=(uL a b).getD (.seq a b)
def bX(P:Program):Code→Option aN
 | .skip=>some .skip
 | .seq a b=>match bX P a,bX P b with|some a,some b=>some (Gb a b)|_,_=>none
 | .cond c a b=>match opd c,bX P a,bX P b with|some c,some a,some b=>some (.cond c a b)|_,_,_=>none
 | .block id b=>match bX P b with|some b=>some (.block id b)|none=>none
 | .loop b=>match bX P b with|some b=>some (.loop b)|none=>none
 | .exit id=>some (.exit id)
 | .ret=>some .ret
 | .region _ ops draw=>fI P ops.toList draw
 | _=>none
def Aj(P:Program):ResultVar→Option Kd
 | .tmp t=>some (.t t)
 | .cell a t=>match nOf P t with|some n=>some (.cell a n)|none=>none
def aK(P:Program)(fn:Func)(mode:MW):Option aV :=
 match fn.body with
 | some body=>match bX P body,fn.results.toList.mapM (Aj P)with
  | some b, some rs => if fn.name ≠ "runtime.NumGoroutine" then some { ntmps := fn.ntmps, results := rs, body := b, mode } else none
  | _,_=>none
 | none=>none
end Go.Dm
/-
Part 17 of "Dm": what an operation looks at, and what it leaves as it was.
-/
namespace Go.Dm
def kR(ts:List Nat)(env aT:Env):Prop:=∀t,t∈ts→(env[t]?).getD .unk=(aT[t]?).getD .unk
theorem kR.app{ts us:List Nat}{env aT:Env}(h:kR (ts++us) env aT):kR ts env aT∧kR us env aT :=
 ⟨fun t ht=>h t (List.mem_append_left _ ht),fun t ht=>h t (List.mem_append_right _ ht)⟩
theorem kR.opd{x:Opd}{env aT:Env}(h:kR x.tmps env aT):x.eval env=x.eval aT:=by
 cases x with
 | t n=>exact h n (by simp[Opd.tmps])
 | c v=>rfl
theorem kR.flat{α:Type}{l:List α}{f:α→List Nat}{env aT:Env}(h:kR (l.flatMap f) env aT):∀x,x∈l→kR (f x) env aT :=
 fun x hx t ht=>h t (List.mem_flatMap.2 ⟨x,hx,ht⟩)
theorem kR.bound{x:Option Opd}{env aT:Env}(h:kR (Nj x) env aT)(d l:Nat):bound env x d l=bound aT x d l:=by
 cases x with
 | none=>rfl
 | some x=>simp only[Dm.bound,kR.opd (x:=x) h]
theorem yV{d:DOp}{h:aA}{env aT:Env}(hd:kR d.tmps env aT):aC h env d=aC h aT d:=by
 cases d<;>simp only[DOp.tmps]at hd
 case makeMap=>rfl
 case alloc=>rfl
 case call=>rfl
 case pick c a b =>
  obtain⟨hd,h3⟩:=hd.app
  obtain⟨h1,h2⟩:=hd.app
  simp only[aC,h1.opd,h2.opd,h3.opd]
 case mapUpdate q m k x =>
  obtain⟨hd,h3⟩:=hd.app
  obtain⟨h1,h2⟩:=hd.app
  simp only[aC,h1.opd,h2.opd,h3.opd]
 case build z parts =>
  have:parts.map (fun p=>(p.1,p.2.1,p.2.2.eval env))=parts.map (fun p=>(p.1,p.2.1,p.2.2.eval aT)) :=
   List.map_congr_left fun p hp=>by rw[(hd.flat p hp).opd]
  simp only[aC,this]
 case buildSlice e s z n parts =>
  have:parts.map (fun p=>(p.1,p.2.eval env))=parts.map (fun p=>(p.1,p.2.eval aT)) :=
   List.map_congr_left fun p hp=>by rw[(hd.flat p hp).opd]
  simp only[aC,this]
 case makeFunc f l =>
  have:l.map (Opd.eval env)=l.map (Opd.eval aT):=List.map_congr_left fun p hp=>(hd.flat p hp).opd
  simp only[aC,this]
 case sliceStr x lo hi =>
  obtain⟨hd,h3⟩:=hd.app
  obtain⟨h1,h2⟩:=hd.app
  simp only[aC,h1.opd,h2.bound,h3.bound]
 case slice3 x lo hi mx =>
  obtain⟨hd,h4⟩:=hd.app
  obtain⟨hd,h3⟩:=hd.app
  obtain⟨h1,h2⟩:=hd.app
  have e:∀(y:Opd) d l,kR y.tmps env aT→bound env (some y) d l=bound aT (some y) d l:=fun y d l hy=>by simp only[Dm.bound,hy.opd]
  simp only[aC,h1.opd,e lo _ _ h2,e hi _ _ h3,e mx _ _ h4]
 case sliceSl sz x lo hi =>
  obtain⟨hd,h3⟩:=hd.app
  obtain⟨h1,h2⟩:=hd.app
  simp only[aC,h1.opd,h2.bound,h3.bound]
 all_goals first
  | simp only[aC,hd.opd]
  | (obtain⟨h1,h2⟩:=hd.app;simp only[aC,h1.opd,h2.opd])
theorem uZ{d:DOp}{call:Nat→List DV→aA→Option (DV×aA)}{h:aA}{env aT:Env}(hd:kR d.tmps env aT):bH call d env h=bH call d aT h:=by
 cases d
 case call f as =>
  simp only[DOp.tmps]at hd
  obtain⟨h1,h2⟩:=hd.app
  have:as.map (Opd.eval env)=as.map (Opd.eval aT):=List.map_congr_left fun p hp=>(h2.flat p hp).opd
  simp only[bH,h1.opd,this]
 all_goals exact yV (h:=h) hd
theorem Lu{d:DOp}{env aT:Env}(hd:kR d.tmps env aT):bT env d=bT aT d:=by
 cases d<;>simp only[DOp.tmps]at hd<;>try rfl
 case load n a=>simp only[bT,hd.opd]
 case cap x=>simp only[bT,hd.opd]
 case len k x=>simp only[bT,hd.opd]
 case sliceSl sz x lo hi =>
  obtain⟨hd,h3⟩:=hd.app
  obtain⟨h1,h2⟩:=hd.app
  simp only[bT,h1.opd]
 case lookup q z ok m k =>
  obtain⟨h1,h2⟩:=hd.app
  simp only[bT,h1.opd]
theorem Yk{d:DOp}{env aT:Env}(hd:kR d.tmps env aT):mark env d=mark aT d:=by
 have ht:=Lu hd
 cases d<;>simp only[mark,ht]
 case load n a=>simp only[DOp.tmps]at hd;simp only[hd.opd]
theorem Sv{d:DOp}{env:Env}{r:Nat×kC}(h:mark env d=some r):bT env d=some r.1:=by
 cases d<;>simp only[mark,Option.map_eq_some_iff]at h
 case load n a =>
  simp only[bT]
  split at h
  ·rename_i he;cases h;first|rfl|rw[he]
  ·cases h
 all_goals (obtain⟨id,h1,h2⟩:=h;subst h2;exact h1)
theorem Xw{L:cK}{o:DOp}{call:Nat→List DV→aA→Option (DV×aA)}{h:aA}{env:Env}{id:Nat}(hp:kZ L env o=some id):bH call o env h=aC h env o:=by
 cases o<;>first|(simp only[kZ]at hp;cases hp;done)|rfl
def Dc(env:Env):DOp→Option (Nat×Nat×List DV)
 | .alloc ety sz z=>some (ety,sz,[z])
 | .buildSlice ety sz z len parts=>(dF sz (List.replicate len z) (parts.map fun p=>(p.1,p.2.eval env))).map fun xs=>(ety,sz,xs)
 | _=>none
def E7(id:Nat):DOp→DV
 | .alloc _ sz _=>.ptr id sz 0 0
 | .buildSlice _ sz _ len _=>.sl id sz 0 len
 | _=>.unk
theorem Yl{d:DOp}{env aT:Env}(hd:kR d.tmps env aT):Dc env d=Dc aT d:=by
 cases d<;>simp only[DOp.tmps]at hd<;>try rfl
 case buildSlice e s z n parts =>
  have:parts.map (fun p=>(p.1,p.2.eval env))=parts.map (fun p=>(p.1,p.2.eval aT)) :=
   List.map_congr_left fun p hp=>by rw[(hd.flat p hp).opd]
  simp only[Dc,this]
theorem sK{sz:Nat}:∀(ps:List (Nat×DV)) {xs ys:List DV},dF sz xs ps=some ys→ys.length=xs.length:=by
 intro ps
 induction ps with
 | nil=>intro xs ys h;simp only[dF]at h;cases h;rfl
 | cons p ps ih =>
  intro xs ys h
  obtain⟨i,v⟩:=p
  simp only[dF]at h
  split at h
  ·rw[ih h,List.length_set]
  ·cases h
theorem Hu{d:DOp}(ha:d.cls=.alloc):(∃ ety sz z,d=.alloc ety sz z)∨∃ ety sz z len parts,d=.buildSlice ety sz z len parts:=by
 unfold DOp.cls at ha
 split at ha
 all_goals first|(cases ha;done)|exact .inl ⟨_,_,_,rfl⟩|exact .inr ⟨_,_,_,_,_,rfl⟩|skip
 split at ha<;>cases ha
theorem Bz{d:DOp}(ha:d.cls=.alloc){h h':aA}{env:Env}{v:DV}(hs:aC h env d=some (v,h')) :
  ∃ ety sz xs,Dc env d=some (ety,sz,xs)∧v=E7 h.n d∧h'=h.push (.arr ety sz xs (some xs.length)):=by
 rcases Hu ha with⟨ety,sz,z,rfl⟩|⟨ety,sz,z,len,parts,rfl⟩
 ·simp only[aC,Option.some.injEq,Prod.mk.injEq]at hs
  obtain⟨rfl,rfl⟩:=hs
  exact⟨_,_,_,rfl,rfl,rfl⟩
 ·simp only[aC]at hs
  split at hs
  ·rename_i xs GI
   simp only[Option.some.injEq,Prod.mk.injEq]at hs
   obtain⟨rfl,rfl⟩:=hs
   refine⟨ety,sz,xs,by simp only[Dc,GI,Option.map_some],rfl,?_⟩
   have:=sK _ GI
   rw[List.length_replicate]at this
   rw[this]
  ·cases hs
theorem En{d:DOp}{h h2:aA}{env:Env}{v:DV}{h':aA}(hd:d.cls=.env)(hs:aC h env d=some (v,h')):aC h2 env d=some (v,h2):=by
 cases d<;>simp only[DOp.cls,kS]at hd<;>try (cases hd)
 case len k x =>
  have hk:k≠2:=fun e=>by subst e;cases hd
  clear hd
  simp only[aC]at hs ⊢
  cases hx:x.eval env<;>rw[hx]at hs<;>simp only at hs ⊢<;>try (cases hs)
  case map id =>
   cases hg:h.get id with
   | none=>rw[hg]at hs;cases hs
   | some o=>rw[hg]at hs;cases o<;>simp only[hk,if_false]at hs<;>cases hs
  all_goals (split at hs;(rename_i e;cases hs;simp[e]);cases hs)
 case minmax mx x y =>
  simp only[aC]at hs ⊢
  split at hs
  ·rename_i h1 h2;cases hs;simp
  ·cases hs
 all_goals (simp only[aC]at hs ⊢;repeat' split at hs)<;>simp_all
def J4(h h2:aA):Prop:=∀id o,h.get id=some o→gF o=true→h2.get id=some o
def GF(d:DOp)(env:Env)(h h2:aA):Prop:=∀id o,bT env d=some id→h.get id=some o→gF o=true→h2.get id=some o
theorem J4.t{h h2:aA}(hg:J4 h h2)(d:DOp)(env:Env):GF d env h h2:=fun id o _ h1 h2=>hg id o h1 h2
theorem Sx{h h2:aA}{n:Option Nat}{a v:DV}(hg:∀id sz idx off,a=.ptr id sz idx off→∀o,h.get id=some o→gF o=true→h2.get id=some o)(hs:kB h n a=some v):kB h2 n a=some v:=by
 unfold kB at hs ⊢
 split at hs
 ·split at hs
  ·rename_i hx
   rw[hg _ _ _ _ rfl _ hx rfl];exact hs
  ·cases hs
 ·exact hs
 ·cases hs
theorem wZ{d:DOp}{h h2:aA}{env:Env}{v:DV}{h':aA}(hg:GF d env h h2)(hd:kS d=false)(hs:aC h env d=some (v,h')):aC h2 env d=some (v,h2):=by
 by_cases hc:d.cls=.env
 ·exact En hc hs
 cases d<;>simp only[kS]at hd<;>try (exact Bool.noConfusion hd)
 case load n a =>
  simp only[aC]at hs ⊢
  split at hs
  ·rename_i v' hl;cases hs;rw[Sx (fun id sz idx off he o h1 h2=>hg id o (by simp only[bT,he]) h1 h2) hl]
  ·cases hs
 case sliceSl sz x lo hi =>
  simp only[aC]at hs ⊢
  split at hs
  ·(repeat' split at hs)<;>simp_all
  ·(repeat' split at hs)<;>simp_all
  ·rename_i G2
   split at hs
   ·rename_i hx
    rw[hg _ _ (by simp only[bT,G2]) hx rfl]
    (repeat' split at hs)<;>first|cases hs|skip
    rename_i h1 _ _ h2 _ _ h3
    simp only[if_pos h1,h2,h3]
   ·cases hs
  ·cases hs
 case cap x =>
  simp only[aC]at hs ⊢
  split at hs
  ·cases hs;rfl
  ·rename_i G2
   split at hs
   ·rename_i hx;rw[hg _ _ (by simp only[bT,G2]) hx rfl]
    split at hs
    ·rename_i e;cases hs;simp[e]
    ·cases hs
   ·rename_i hx;rw[hg _ _ (by simp only[bT,G2]) hx rfl]
    split at hs
    ·rename_i e;cases hs;simp[e]
    ·cases hs
   ·cases hs
  ·cases hs
 case len k x =>
  simp only[aC]at hs ⊢
  cases hx:x.eval env<;>rw[hx]at hs<;>simp only at hs ⊢<;>try (cases hs)
  case map id =>
   cases hx2:h.get id with
   | none=>rw[hx2]at hs;cases hs
   | some o =>
    rw[hx2]at hs
    cases o<;>simp only at hs<;>try (cases hs)
    rw[hg _ _ (by simp only[bT,hx]) hx2 rfl]
    split at hs
    ·rename_i e;cases hs;simp[e]
    ·cases hs
  all_goals (split at hs;(rename_i e;cases hs;simp[e]);cases hs)
 case lookup q z ok m k =>
  simp only[aC]at hs ⊢
  cases hm:m.eval env<;>rw[hm]at hs<;>simp only at hs ⊢<;>try (cases hs)
  ·(repeat' split at hs)<;>simp_all
  ·rename_i id
   cases hx:h.get id with
   | none=>rw[hx]at hs;cases hs
   | some o =>
    rw[hx]at hs
    cases o<;>simp only at hs<;>try (cases hs)
    rw[hg _ _ (by simp only[bT,hm]) hx rfl]
    (repeat' split at hs)<;>simp_all
 all_goals exact absurd rfl hc
def jU(r:Nat×kC)(g h:aA):Prop :=
 match r.2 with
 | none=>h.get r.1=g.get r.1
 | some (n,sz,i,o)=>kB h n (.ptr r.1 sz i o)=kB g n (.ptr r.1 sz i o)
theorem jU.of_get{r:Nat×kC}{g h:aA}(e:h.get r.1=g.get r.1):jU r g h:=by
 unfold jU
 split
 ·exact e
 ·simp only[kB,e]
theorem jU.trans{r:Nat×kC}{a b c:aA}(h1:jU r a b)(h2:jU r b c):jU r a c:=by
 unfold jU at h1 h2 ⊢
 split<;>simp_all
theorem Iw{d:DOp}{h h2:aA}{env:Env}{v:DV}{h':aA}(hg:∀r,mark env d=some r→(∃ o,h.get r.1=some o)→jU r h h2)(hd:kS d=false)(hs:aC h env d=some (v,h')):aC h2 env d=some (v,h2):=by
 by_cases hld:∃ n a,d=.load n a
 ·obtain⟨n,a,rfl⟩:=hld
  simp only[aC]at hs ⊢
  split at hs
  ·rename_i v' hl
   cases hs
   have:kB h2 n (a.eval env)=some v:=by
    cases hv:a.eval env<;>rw[hv]at hl<;>try (simp only[kB]at hl;cases hl;done)
    ·rename_i id sz i o
     have Oa:∃ ob,h.get id=some ob:=by
      unfold kB at hl
      simp only at hl
      split at hl
      ·exact⟨_,by assumption⟩
      ·cases hl
     have:=hg (id,some (n,sz,i,o)) (by simp only[mark,hv]) Oa
     unfold jU at this
     simp only at this
     rw[this];exact hl
    ·exact hl
   rw[this]
  ·cases hs
 ·refine wZ (fun id ob htgt jQ _=>?_) hd hs
  have hm:mark env d=some (id,none):=by
   cases d<;>simp only[mark,htgt,Option.map_some]
   exact absurd ⟨_,_,rfl⟩ hld
  have:=hg _ hm ⟨ob,jQ⟩
  unfold jU at this
  simp only at this
  rw[this];exact jQ
theorem Mn{d:DOp}{h h2:aA}{env:Env}{v:DV}{h':aA}(hg:J4 h h2)(hd:kS d=false)(hs:aC h env d=some (v,h')):aC h2 env d=some (v,h2) :=
 wZ (hg.t d env) hd hs
structure dZ(h h':aA):Prop where
 lim:h'.lim=h.lim
 n:h.n≤h'.n
 get:∀id,id<h.lim→h'.get id=h.get id
theorem dZ.refl(h:aA):dZ h h:=⟨rfl,Nat.le_refl _,fun _ _=>rfl⟩
theorem dZ.trans{a b c:aA}(h:dZ a b)(g:dZ b c):dZ a c :=
 ⟨g.lim.trans h.lim,Nat.le_trans h.n g.n,fun id hi=>(g.get id (by rw[h.lim];exact hi)).trans (h.get id hi)⟩
theorem dZ.push{h:aA}(hl:h.lim≤h.n)(o:DO):dZ h (h.push o):=⟨rfl,Nat.le_succ _,fun id hi=>bP (by omega)⟩
theorem dZ.set{h:aA}{id:Nat}{ob:DO}(hg:h.get id=some ob)(hl:h.lim≤id)(o:DO):dZ h (h.set id o) :=
 ⟨rfl,Nat.le_refl _,fun k hk=>bD (dH hg) (by omega)⟩
theorem Mf{h h':aA}{n:Nat}{a x:DV}(hs:kX h n a x=some h'):dZ h h':=by
 unfold kX at hs
 split at hs
 ·split at hs
  ·rename_i hx
   split at hs
   ·rename_i hc
    split at hs
    ·split at hs
     ·cases hs;exact .set hx hc.2.1 _
     ·cases hs
    ·cases hs
   ·cases hs
  ·cases hs
 ·cases hs
theorem rQ{h h':aA}(hl:h.lim≤h.n){ety sz bytes:Nat}{s v:DV}{ys:List DV}(hs:bF h ety sz bytes s ys=some (v,h')):dZ h h':=by
 unfold bF at hs
 split at hs
 ·split at hs
  ·cases hs;exact .refl _
  ·split at hs
   ·cases hs;exact .push hl _
   ·cases hs
 ·split at hs
  ·cases hs;exact .refl _
  ·split at hs
   ·rename_i hx
    split at hs
    ·split at hs
     ·split at hs
      ·rename_i aS;cases hs;exact .set hx aS _
      ·cases hs
     ·split at hs
      ·cases hs;exact .push hl _
      ·split at hs
       ·rename_i aS;cases hs;exact(dZ.set hx aS _).trans (.push (by exact hl) _)
       ·cases hs
    ·cases hs
   ·cases hs
 ·cases hs
theorem Cv{h h':aA}{sz:Nat}{d v:DV}{ys:List DV}(hs:vO h sz d ys=some (v,h')):dZ h h':=by
 unfold vO at hs
 split at hs
 ·cases hs;exact .refl _
 ·split at hs
  ·rename_i hx
   split at hs
   ·rename_i hc;cases hs;exact .set hx hc.2.2.2 _
   ·cases hs
  ·cases hs
 ·cases hs
theorem yU{d:DOp}{h h':aA}(hl:h.lim≤h.n){env:Env}{v:DV}(hs:aC h env d=some (v,h')):dZ h h':=by
 by_cases ht:kS d=false
 ·have KP:J4 h h:=fun _ _ hx _=>hx
  have:=Mn KP ht hs
  rw[hs]at this
  cases this
  exact .refl _
 cases d<;>simp only[kS,not_true_eq_false]at ht<;>simp only[aC]at hs
 case alloc=>cases hs;exact .push hl _
 case box=>split at hs<;>cases hs;exact .push hl _
 case buildSlice=>split at hs<;>cases hs;exact .push hl _
 case store =>
  split at hs
  ·rename_i h2 dD;cases hs;exact Mf dD
  ·cases hs
 case append =>
  split at hs
  ·exact rQ hl hs
  ·cases hs
 case appendZ =>
  split at hs
  ·split at hs
   ·exact rQ hl hs
   ·cases hs
  ·cases hs
 case copy =>
  split at hs
  ·exact Cv hs
  ·cases hs
 case clear =>
  split at hs
  ·cases hs;exact .refl _
  ·cases hs;exact .refl _
  ·split at hs
   ·cases hs;exact .refl _
   ·split at hs
    ·rename_i hcp;cases hs;exact Cv hcp
    ·cases hs
  ·cases hs
 case makeSlice =>
  split at hs
  ·split at hs
   ·cases hs;exact .push hl _
   ·cases hs
  ·cases hs
 case makeMap=>cases hs;exact .push hl _
 case mapUpdate =>
  split at hs
  ·split at hs
   ·rename_i hx
    split at hs
    ·rename_i hc
     split at hs
     ·cases hs;exact .set hx hc.1 _
     ·cases hs;exact .set hx hc.1 _
     ·cases hs
    ·cases hs
   ·cases hs
  ·cases hs
 case delete =>
  split at hs
  ·split at hs
   ·rename_i hx
    split at hs
    ·rename_i hc
     split at hs
     ·cases hs;exact .set hx hc.1 _
     ·cases hs;exact .set hx hc.1 _
     ·cases hs
    ·cases hs
   ·cases hs
  ·cases hs
 case appendS =>
  split at hs
  ·exact rQ hl hs
  ·cases hs
 case range=>cases hs
 case next=>cases hs
 case entry=>cases hs
 case bytesStr =>
  repeat' (split at hs)
  all_goals first|cases hs;done|(cases hs;exact .refl _)
 case call=>cases hs
 all_goals exact absurd trivial ht
end Go.Dm
/-
Part 18 of "Dm": runs leave alone what lies dJ the limit.
-/
namespace Go.Dm
abbrev iD:=Nat→List DV→aA→Option (DV×aA)
def dL(call:iD):Prop:=∀f args h v h',h.lim≤h.n→call f args h=some (v,h')→dZ h h'
theorem dZ.lim_le{h h':aA}(k:dZ h h')(hl:h.lim≤h.n):h'.lim≤h'.n:=by rw[k.lim];exact Nat.le_trans hl k.n
theorem jO{call:iD}(hc:dL call){d:DOp}{env:Env}{h h':aA}{v:DV}(hl:h.lim≤h.n)(hs:bH call d env h=some (v,h')):dZ h h':=by
 unfold bH at hs
 split at hs
 ·split at hs
  ·exact hc _ _ _ _ _ hl hs
  ·cases hs
 ·exact yU hl hs
theorem zF{call:iD}(hc:dL call):∀(ops:List aJ) (env aT:Env) (h h':aA),h.lim≤h.n→eO call ops env h=some (aT,h')→dZ h h':=by
 intro ops
 induction ops with
 | nil=>intro env aT h h' _ hs;cases hs;exact .refl _
 | cons o r ih =>
  intro env aT h h' hl hs
  simp only[eO]at hs
  split at hs
  ·split at hs
   ·rename_i v h1 h2
    have k:=jO hc hl h2
    exact k.trans (ih _ _ _ _ (k.lim_le hl) hs)
   ·cases hs
  ·exact ih _ _ _ _ hl hs
  ·cases hs
theorem tT{call:iD}(hc:dL call){l:Nat}{d:DOp}{env:Env}{h h':aA}{v:DV}(hl:h.lim≤h.n)(GO:l≤h.n)(hs:lX call l d env h=some (v,h')) :
  dZ h h'∧∀id,id<l→h'.get id=h.get id:=by
 unfold lX at hs
 split at hs
 ·rename_i v1 h1 h2
  cases hs
  have k:=jO hc (h:={h with lim:=max l h.lim}) (Nat.max_le.2 ⟨GO,hl⟩) h2
  exact⟨⟨rfl,k.n,fun id hi=>k.get id (Nat.lt_of_lt_of_le hi (Nat.le_max_right _ _))⟩,fun id hi=>k.get id (Nat.lt_of_lt_of_le hi (Nat.le_max_left _ _))⟩
 ·cases hs
theorem Hr{call:iD}(hc:dL call){l r:Nat}{L L':cK}{d:DOp}{env:Env}{h h':aA}{v:DV}(hl:h.lim≤h.n)(GO:l≤h.n)(hs:cT call l r L d env h=some (v,h',L')):dZ h h':=by
 unfold cT at hs
 split at hs
 ·split at hs
  ·rename_i h2;cases hs;exact yU hl h2
  ·cases hs
 ·split at hs
  ·unfold lR at hs
   split at hs
   ·split at hs
    ·rename_i h2
     split at hs
     ·cases hs;exact jO hc hl h2
     ·cases hs
    ·cases hs
   ·cases hs
  ·split at hs
   ·rename_i h2;cases hs;exact(tT hc hl GO h2).1
   ·cases hs
theorem Wr{hs:List aA}{k:Nat}{h:aA}(he:iG hs k=some h):h∈hs:=by
 unfold iG at he
 split at he
 ·exact List.mem_of_getElem? he
 ·cases he
def J1:List aA→Prop
 | []=>True
 | h::hs=>h.lim≤h.n∧(∀g,g∈hs→dZ g h)∧J1 hs
theorem Ja{call:iD}(hc:dL call):∀(ops:List aJ) (env aT:Env) (hs:List aA) (L:cK) (h':aA),J1 hs→dP call ops env hs L=some (aT,h')→∀g,g∈hs→dZ g h':=by
 intro ops
 induction ops with
 | nil =>
  intro env aT hs L h' dD he g hg
  cases hs with
  | nil=>cases he
  | cons h hs =>
   cases he
   rcases List.mem_cons.1 hg with rfl|hg
   ·exact .refl _
   ·exact dD.2.1 g hg
 | cons o r ih =>
  intro env aT hs L h' dD he g hg
  cases hs with
  | nil=>cases he
  | cons h hs =>
   have next:∀h1,dZ h h1→J1 (h1::h::hs):=fun h1 k=>⟨k.lim_le dD.1,fun g hg=>by
    rcases List.mem_cons.1 hg with rfl|hg
    ·exact k
    ·exact(dD.2.1 g hg).trans k,dD⟩
   have dJ:∀g,g∈h::hs→g.n≤h.n:=fun g hg=>by
    rcases List.mem_cons.1 hg with rfl|hg
    ·exact Nat.le_refl _
    ·exact(dD.2.1 g hg).n
   simp only[dP]at he
   split at he
   ·cases he
   ·split at he
    ·split at he
     ·split at he
      ·split at he
       ·exact ih _ _ _ _ _ dD he g hg
       ·cases he
      ·cases he
     ·cases he
    ·split at he
     ·rename_i v h1 h2
      exact ih _ _ _ _ _ (next h1 (jO hc dD.1 h2)) he g (List.mem_cons_of_mem _ hg)
     ·cases he
    ·split at he
     ·rename_i h0 KD
      split at he
      ·rename_i v h1 L1 h2
       exact ih _ _ _ _ _ (next h1 (Hr hc dD.1 (dJ h0 (Wr KD)) h2)) he g (List.mem_cons_of_mem _ hg)
      ·cases he
     ·cases he
   ·split at he
    ·exact ih _ _ _ _ _ dD he g hg
    ·exact ih _ _ _ _ _ (next h (.refl _)) he g (List.mem_cons_of_mem _ hg)
def Ao(run:aN→Env→aA→Res):Prop:=∀c env h e aT h',h.lim≤h.n→run c env h=.ok e aT h'→dZ h h'
def wR(D:bV):Prop:=∀f hk,D.hook f=some hk→∀h args v h',h.lim≤h.n→hk h args=some (v,h')→dZ h h'
theorem tV{h h':aA}{d d':DV}(hf:gI h d=some (d',h')):dZ h h':=by
 cases d with
 | sl id sz off len =>
  simp only[gI]at hf
  split at hf
  ·rename_i hg
   split at hf
   ·rename_i bU;cases hf;exact dZ.set hg bU.2.1 _
   ·cases hf
  ·cases hf
 | _=>simp only[gI]at hf;cases hf;exact .refl _
theorem Gf{f:aA→DV→Option (DV×aA)}(hk:∀{h h':aA} {d d':DV},f h d=some (d',h')→dZ h h'):∀{ds ds':List DV} {h h':aA},tJ f h ds=some (ds',h')→dZ h h':=by
 intro ds
 induction ds with
 | nil=>intro ds' h h' he;simp only[tJ]at he;cases he;exact .refl _
 | cons d r ih =>
  intro ds' h h' he
  simp only[tJ]at he
  split at he
  ·rename_i e1
   split at he
   ·rename_i e2;cases he;exact(hk e1).trans (ih e2)
   ·cases he
  ·cases he
theorem Gz{h:aA}{d:DV}(hd:∀cs,d≠.agg cs):gP h d=gI h d:=by
 cases d<;>first|rfl|exact absurd rfl (hd _)
theorem Jt{h h':aA}{d d':DV}(hf:gP h d=some (d',h')):dZ h h':=by
 cases d with
 | agg cs =>
  simp only[gP]at hf
  split at hf
  ·rename_i e1;cases hf;exact Gf (fun e=>tV e) e1
  ·cases hf
 | _=>rw[Gz (by intro cs e;cases e)]at hf;exact tV hf
theorem qW{run:aN→Env→aA→Res}{D:bV}(hh:wR D)(hr:Ao run):dL (enter run D):=by
 intro f args h v h' hl he
 unfold enter at he
 split at he
 ·rename_i hk qD;exact hh _ _ qD _ _ _ _ hl he
 ·split at he
  ·cases he
  ·rename_i df hdf
   have go:∀args (h h':aA) v,h.lim≤h.n→(match run df.body (args++List.replicate (df.ntmps-args.length) bN) h with
     | .ok (.exit _) _ _=>none
     | .ok _ env h'=>match aL h' env df.results with
      | some v=>some (v,h')
      | none=>none
     | .fail=>none)=some (v,h')→dZ h h':=by
    intro args h h' v hl he
    split at he
    ·cases he
    ·rename_i h2
     split at he
     ·cases he;exact hr _ _ _ _ _ _ hl h2
     ·cases he
    ·cases he
   simp only at he
   split at he
   ·exact go _ _ _ _ hl he
   ·split at he
    ·rename_i v1 h1 h2
     cases he
     have k:=go _ {h with lim:=h.n} _ _ (Nat.le_refl _) h2
     exact⟨rfl,k.n,fun id hi=>k.get id (Nat.lt_of_lt_of_le hi hl)⟩
    ·cases he
   ·split at he
    ·split at he
     ·split at he
      ·split at he
       ·cases he;exact .refl _
       ·cases he
      ·cases he
     ·cases he
    ·cases he
   ·split at he
    ·split at he
     ·rename_i hgid
      split at he
      ·rename_i bU
       split at he
       ·split at he
        ·cases he
         exact(dZ.set hgid bU.2 _).trans (.push (by exact hl) _)
        ·cases he
       ·cases he
      ·cases he
     ·exact go _ _ _ _ hl he
    ·exact go _ _ _ _ hl he
   ·split at he
    ·rename_i as h1 ea
     split at he
     ·split at he
      ·split at he
       ·split at he
        ·cases he;exact Gf (fun e=>Jt e) ea
        ·cases he
       ·cases he
      ·cases he
     ·cases he
    ·cases he
theorem Mz{call:iD}{run:aN→Env→aA→Res}(hc:dL call)(hr:Ao run){it nx ok en X Y p:Nat}{ops:List aJ}{b:aN}:∀(l:List (DV×DV)) {env:Env} {h:aA} {e:Ex} {aT:Env} {h':aA},h.lim≤h.n →
  rounds call run it nx ok en X Y p ops b l env h=.ok e aT h'→dZ h h':=by
 intro l
 induction l with
 | nil =>
  intro env h e aT h' hl he
  simp only[rounds]at he
  split at he
  ·split at he
   ·cases he;exact .refl _
   ·cases he
  ·cases he
 | cons x r ih =>
  intro env h e aT h' hl he
  obtain⟨k,v⟩:=x
  simp only[rounds]at he
  split at he
  ·split at he
   ·split at he
    ·rename_i env1 h1 h2
     have k1:=zF hc _ _ _ _ _ hl h2
     split at he
     ·rename_i h3
      have k2:=k1.trans (hr _ _ _ _ _ _ (k1.lim_le hl) h3)
      exact k2.trans (ih (k2.lim_le hl) he)
     ·rename_i h3
      have k2:=k1.trans (hr _ _ _ _ _ _ (k1.lim_le hl) h3)
      split at he
      ·exact k2.trans (ih (k2.lim_le hl) he)
      ·split at he
       ·cases he;exact k2
       ·cases he;exact k2
     ·exact k1.trans (hr _ _ _ _ _ _ (k1.lim_le hl) he)
    ·cases he
   ·cases he
  ·cases he
theorem Aa{h1:aA}{n lim id:Nat}(hn:n≤h1.n)(eK:id<n):({objs:=h1.objs.drop (h1.n-n),n:=n,lim:=lim}:aA).get id=h1.get id:=by
 unfold aA.get
 simp only[eK,if_true]
 rw[if_pos (by omega),List.getElem?_drop]
 congr 1
 omega
theorem BO{h:aA}{m id:Nat}{es:List (DV×DV)}(hg:h.get m=some (.mp es))(eK:id<h.n)(cY:id≠m):(iR h m).get id=h.get id:=by
 unfold iR
 rw[bP (by exact eK),bD (dH hg) cY]
theorem Ov{h:aA}{v:DV}{m:Nat}{es:List (DV×DV)}(he:lZ h v=some (m,es)):v=.map m∧h.get m=some (.mp es):=by
 unfold lZ at he
 split at he
 ·split at he
  ·rename_i hg;cases he;exact⟨rfl,hg⟩
  ·cases he
 ·cases he
theorem Lp{call:iD}{run:aN→Env→aA→Res}(hc:dL call)(hr:Ao run){it nx ok en X Y m:Nat}{kl:List Nat}{ops:List aJ}{b:aN}{es p:List (DV×DV)}{env:Env}{h:aA}{e:Ex}{aT:Env}{h':aA}(hl:h.lim≤h.n)
  (hg:h.get m=some (.mp es)) (he:iF call run it nx ok en X Y kl ops b m es env h p=.ok e aT h'):dZ h h':=by
 unfold iF rK at he
 split at he
 ·rename_i e1 env1 h1 h2
  split at he
  ·rename_i bU
   cases he
   simp only[Bool.and_eq_true,Nat.ble_eq]at bU
   have aS:(iR h m).lim≤(iR h m).n:=Nat.le_succ_of_le hl
   have k:=Mz hc hr _ aS h2
   refine⟨rfl,Nat.le_refl _,fun id eK=>?_⟩
   have Za:id<h.n:=Nat.lt_of_lt_of_le eK hl
   by_cases cY:id=m
   ·subst cY
    rw[hg]
    unfold aA.get aA.set
    simp only[Za,if_true]
    rw[List.getElem?_set]
    have cB:=k.n
    have OW:(iR h id).n=h.n+1:=rfl
    simp only[if_true]
    split
    ·rfl
    ·rename_i aY
     exfalso
     have hk:=k.get id eK
     have:(iR h id).get id=some .dead:=by
      unfold iR
      rw[bP (by exact Za)]
      unfold aA.get at hg ⊢
      simp only[aA.set,Za,if_true]at hg ⊢
      have:=(List.getElem?_eq_some_iff.1 hg).1
      simp[List.getElem?_set,this]
     rw[this]at hk
     have wN:({objs:=h1.objs.drop (h1.n-h.n),n:=h.n,lim:=h.lim}:aA).get id=some .dead:=by rw[Aa bU.1 Za];exact hk
     unfold aA.get at wN
     simp only[Za,if_true]at wN
     exact aY (List.getElem?_eq_some_iff.1 wN).1
   ·exact(bD (h:={objs:=h1.objs.drop (h1.n-h.n),n:=h.n,lim:=h.lim}) (show m<h.n from dH hg) cY).trans ((Aa bU.1 Za).trans ((k.get id eK).trans (BO hg Za cY)))
  ·cases he
 ·cases he
theorem Kf{call:iD}{run:aN→Env→aA→Res}{it nx ok en X Y:Nat}{kl:List Nat}{ops:List aJ}{b:aN}{env:Env}{h:aA}{v:DV}{e:Ex}{aT:Env}{h':aA}(he:rT call run it nx ok en X Y kl ops b env h (lZ h v)=.ok e aT h') :
  ∃ m es,v=.map m∧h.get m=some (.mp es)∧iF call run it nx ok en X Y kl ops b m es env h es=.ok e aT h'∧∀p∈zM es,Ou e aT h' (iF call run it nx ok en X Y kl ops b m es env h p)=true:=by
 cases hx:lZ h v with
 | none=>rw[hx]at he;cases he
 | some x =>
  obtain⟨m,es⟩:=x
  rw[hx]at he
  simp only[rT]at he
  obtain⟨h1,h2⟩:=Ov hx
  split at he
  ·rename_i h3
   split at he
   ·rename_i h4
    cases he
    exact⟨m,es,h1,h2,h3,fun p hp=>List.all_eq_true.1 h4 p hp⟩
   ·cases he
  ·cases he
theorem Hk{D:bV}(hh:wR D):∀n,Ao (cZ D n):=by
 intro n
 induction n with
 | zero=>intro c env h e aT h' _ he;cases he
 | succ n ih =>
  intro c env h e aT h' hl he
  cases c<;>simp only[cZ]at he
  case skip=>cases he;exact .refl _
  case exit=>cases he;exact .refl _
  case ret=>cases he;exact .refl _
  case seq a b =>
   split at he
   ·rename_i e1 h1 h2
    have k:=ih _ _ _ _ _ _ hl h2
    exact k.trans (ih _ _ _ _ _ _ (k.lim_le hl) he)
   ·exact ih _ _ _ _ _ _ hl he
  case cond c a b =>
   split at he
   ·exact ih _ _ _ _ _ _ hl he
   ·exact ih _ _ _ _ _ _ hl he
   ·cases he
  case block id b =>
   split at he
   ·rename_i h2
    split at he
    ·cases he;exact ih _ _ _ _ _ _ hl h2
    ·cases he;exact ih _ _ _ _ _ _ hl h2
   ·exact ih _ _ _ _ _ _ hl he
  case loop b =>
   split at he
   ·rename_i e1 h1 h2
    have k:=ih _ _ _ _ _ _ hl h2
    exact k.trans (ih _ _ _ _ _ _ (k.lim_le hl) he)
   ·exact ih _ _ _ _ _ _ hl he
  case region ops =>
   split at he
   ·rename_i h2;cases he;exact zF (qW hh ih) _ _ _ _ _ hl h2
   ·cases he
  case walk x it nx ok en X Y kl ops b =>
   obtain⟨m,es,_,hg,h2,_⟩:=Kf he
   exact Lp (qW hh ih) ih hl hg h2
  case draw ops =>
   split at he
   ·rename_i h2;cases he;exact Ja (qW hh ih) _ _ _ [h] _ _ (show J1 [h]from⟨hl,(fun _ hg=>(by cases hg)),trivial⟩) h2 _ (List.mem_singleton.2 rfl)
   ·cases he
end Go.Dm
/-
Part 19 of "Dm": calls; one operation, a call or none; results.
-/
namespace Go.Dm
def sQ(h:aA)(c:Ctx)(h':aA)(d:DV):Ending→World→Prop:=fun e w'=>∃ v,e=.returned v∧lF h c h' w' d v
def Ij(P:Program)(f:FuncId)(vals:Array Value)(h:aA)(c:Ctx)(h':aA)(d:DV):Prop :=
 (∃ v w',(callFunc f vals).run P c.w=.ok (.value v) w'∧lF h c h' w' d v) ∨
 (∃ f' vals' ,(callFunc f vals).run P c.w=.ok (.enter f' vals') c.w∧Calls P f' vals' c.w (sQ h c h' d))
def iY(P:Program)(call:iD):Prop:=∀f args h d h' c vals,call f args h=some (d,h')→Rel h c→VRs c args vals→Ij P f vals.toArray h c h' d
def LV(P:Program)(o:Oper)(a:Act)(h:aA)(c:Ctx)(h':aA)(d:DV):Prop :=
 ∀K Q,(∀v w',lF h c h' w' d v→K (a.put o.dst v) w')→o.wp P a c.w K Q
theorem fK.opOk{P:Program}{o:Oper}{a:Act}{h h':aA}{c:Ctx}{d:DV}(hs:fK P h c o a h' d):LV P o a h c h' d:=by
 obtain⟨nx,v,w',hr,hn,hp⟩:=hs
 intro K Q hK
 unfold Oper.wp
 rw[hr]
 rcases hn with rfl|⟨rfl,rfl⟩
 ·exact hK v w' hp
 ·exact hK _ w' hp
theorem Ij.opOk{P:Program}{o:Oper}{a:Act}{h h':aA}{c:Ctx}{d:DV}{f:FuncId}{vals:Array Value}(hc:Ij P f vals h c h' d)
  (he:(execOp a.eval o).run P c.w=(callFunc f vals).run P c.w):LV P o a h c h' d:=by
 intro K Q hK
 unfold Oper.wp
 rw[he]
 rcases hc with⟨v,w',hr,hp⟩|⟨f',vals',hr,hcalls⟩
 ·rw[hr];exact hK v w' hp
 ·rw[hr]
  exact Calls.mono hcalls fun e w' hp=>by
   obtain⟨v,rfl,hp⟩:=hp
   exact hK v w' hp
section
variable {P:Program} {h h':aA} {c:Ctx} {env:Env} {a:Act} {o:Oper} {r:DV}
theorem Q6{as:List Operand}{ds:List Opd}(hm:as.mapM opd=some ds)(hE:cI c env a):VRs c (ds.map (Opd.eval env)) (as.map a.eval):=by
 have hl:=cJ _ _ _ hm
 refine⟨by simp[hl],fun i h1 h2=>?_⟩
 simp only[List.length_map]at h1 h2
 simp only[List.getElem_map]
 exact bI (eW _ _ _ hm i h2 h1) hE
theorem VRs.app{ds es:List DV}{vs us:List Value}(h1:VRs c ds vs)(h2:VRs c es us):VRs c (ds++es) (vs++us):=by
 refine⟨by simp[h1.1,h2.1],fun i a1 a2=>?_⟩
 by_cases hi:i<ds.length
 ·have oP:i<vs.length:=by rw[←h1.1];exact hi
  rw[List.getElem_append_left hi,List.getElem_append_left oP]
  exact h1.2 i hi oP
 ·have oP:¬i<vs.length:=by rw[←h1.1];exact hi
  rw[List.getElem_append_right (Nat.le_of_not_lt hi),List.getElem_append_right (Nat.le_of_not_lt oP)]
  have:i-ds.length=i-vs.length:=by rw[h1.1]
  have b1:i-ds.length<es.length:=by simp only[List.length_append]at a1;omega
  have b2:i-vs.length<us.length:=by simp only[List.length_append]at a2;omega
  have:=h2.2 (i-ds.length) b1 (by rw[h1.1];exact b2)
  simpa only[h1.1]using this
theorem V0{f:Operand}{args:Array Operand}{ats:Array TypeId}{g:FuncId}{cap:List Value}(ho:o.op=.call {callee:=.value f,args:=args,argTypes:=ats})
  (hf:a.eval f=.func (.func g) #[] cap.toArray) :
  (execOp a.eval o).run P c.w=(callFunc g (args.toList.map a.eval++cap).toArray).run P c.w:=by
 have e:(args.toList.map a.eval++cap).toArray=args.map a.eval++cap.toArray:=by apply Array.ext';simp
 rw[e]
 simp[execOp,ho,Go.resolve,Deferred.ofValue,hf,invoke]
theorem Uo{f':Opd}{as':List Opd}(hc:gJ P o=some (.call f' as')) :
  ∃ f args ats,o.op=.call {callee:=.value f,args:=args,argTypes:=ats}∧opd f=some f'∧args.toList.mapM opd=some as':=by
 unfold gJ at hc
 split at hc
 case h_32 f args ats ho =>
  split at hc
  ·rename_i g as h1 h2;cases hc;exact⟨f,args,ats,ho,h1,h2⟩
  ·cases hc
 all_goals ((repeat' split at hc)<;>first|(cases hc;done)|(simp at hc;done))
theorem sB{call:iD}(iU:iY P call){d:DOp}(hc:gJ P o=some d)(hR:Rel h c)(hE:cI c env a)(hs:bH call d env h=some (r,h')):LV P o a h c h' r:=by
 by_cases hn:∀f as,d≠.call f as
 ·have Ar:aC h env d=some (r,h'):=by
   unfold bH at hs
   split at hs
   ·exact absurd rfl (hn _ _)
   ·exact hs
  exact(Wo hc hn hR hE Ar).opOk
 ·have:∃ f as,d=.call f as:=by
   cases d<;>first|exact⟨_,_,rfl⟩|exact absurd (fun _ _=>by simp) hn
  obtain⟨f',as',rfl⟩:=this
  obtain⟨f,args,ats,ho,hf,has⟩:=Uo hc
  simp only[bH]at hs
  split at hs
  ·rename_i g cap hg
   have vf:=bI hf hE
   rw[hg]at vf
   obtain⟨vs,e1,e2,e3⟩:=vf.func_inv
   exact(iU g _ h r h' c _ hs hR ((Q6 has hE).app ⟨e2,e3⟩)).opOk (V0 ho e1)
  ·cases hs
end
end Go.Dm
/-
Part 20 of "Dm": regions in the text's order; guards; results.
-/
namespace Go.Dm
def St(c:Ctx)(h':aA)(aT:Env)(a':Act)(w':World):Prop :=
 ∃ ρ',Rel h' (c.next w' ρ' h')∧bR c (c.next w' ρ' h')∧cI (c.next w' ρ' h') aT a'
theorem Bf(c:Ctx)(w1 w2:World)(ρ1 ρ2:Nat→Option (Nat×Nat))(h1 h2:aA):(c.next w1 ρ1 h1).next w2 ρ2 h2=c.next w2 ρ2 h2:=rfl
section
variable {P:Program} {h h':aA} {c:Ctx} {env:Env} {a:Act} {o:Oper} {r:DV}
theorem St.trans{h1:aA}{w1:World}{ρ1:Nat→Option (Nat×Nat)}(cM:bR c (c.next w1 ρ1 h1)){h2:aA}{env2:Env}{a2:Act}{w2:World}(hs:St (c.next w1 ρ1 h1) h2 env2 a2 w2):St c h2 env2 a2 w2:=by
 obtain⟨ρ2,k1,k2,k3⟩:=hs
 exact⟨ρ2,k1,cM.trans k2,k3⟩
theorem cI.mono{c c':Ctx}(hE:cI c env a)(cM:bR c c'):cI c' env a:=⟨hE.size,hE.defers,fun i hi=>(hE.val i hi).mono cM⟩
theorem cI.put(hE:cI c env a){v:Value}{d:DV}(hv:VR c d v)(dst:Option Nat):cI c (Dm.put env dst d) (a.put dst v):=by
 cases dst with
 | none=>exact hE
 | some t =>
  refine⟨by simp[Dm.put,Act.put,hE.size],hE.defers,fun i hi=>?_⟩
  simp only[Dm.put,List.length_set]at hi
  have oP:i<a.tmps.size:=by rw[hE.size];exact hi
  have:=hE.val i hi
  simp only[Array.getD_eq_getD_getElem?]at this
  simp only[Dm.put,Act.put,List.getElem_set,Array.getD_eq_getD_getElem?,Array.getElem?_setIfInBounds]
  by_cases e:t=i
  ·subst e;simpa[oP]using hv
  ·simpa[e]using this
theorem cI.get(hE:cI c env a)(t:Nat):VR c ((env[t]?).getD .unk) (a.tmps.getD t undef):=by
 by_cases ht:t<env.length
 ·rw[List.getElem?_eq_getElem ht];exact hE.val t ht
 ·rw[List.getElem?_eq_none (Nat.le_of_not_lt ht)];exact .unk _
theorem gK{ops:List Oper}{g:Option (Nat×Bool)}(hg:Ok ops o.guard=some g)(hE:cI c env a){b:Bool}(hw:gN env g=some b) :
  Region.wanted o (yielded ops.toArray a.tmps)=b:=by
 unfold Ok at hg
 split at hg
 ·rename_i hn
  cases hg
  simp only[gN]at hw
  cases hw
  simp[Region.wanted,hn]
 ·rename_i j want hn
  split at hg
  ·rename_i og hog
   split at hg
   ·rename_i t ht
    cases hg
    simp only[gN]at hw
    split at hw
    ·rename_i b' hb
     cases hw
     obtain⟨aY,Ip⟩:=List.getElem?_eq_some_iff.1 hb
     have hv:=hE.val t aY
     rw[Ip]at hv
     have hv:=hv.bool_inv
     have tM:t<a.tmps.size:=by rw[hE.size];exact aY
     simp[tM]at hv
     simp[Region.wanted,hn,yielded,hog,ht,tM,hv]
    ·rename_i vs hb
     cases hw
     obtain⟨aY,Ip⟩:=List.getElem?_eq_some_iff.1 hb
     have hv:=hE.val t aY
     rw[Ip]at hv
     obtain⟨us,hv,_⟩:=hv.tup_inv
     have tM:t<a.tmps.size:=by rw[hE.size];exact aY
     simp[tM]at hv
     simp[Region.wanted,hn,yielded,hog,ht,tM,hv]
    ·cases hw
   ·cases hg
  ·cases hg
theorem VR.undef:VR c bN Go.undef:=.tup (ds:=[]) (vs:=[]) rfl (fun i h1 _=>absurd h1 (by simp))
theorem iM{ops:List Oper}{k:sO}{s:Nat}{d:aJ}(hc:dI P ops k s o=some d) :
  gJ P o=some d.op∧Ok ops o.guard=some d.guard∧d.dst=o.dst∧d.kind=k∧d.snap=s:=by
 unfold dI at hc
 split at hc
 ·rename_i x g h1 h2;cases hc;exact⟨h1,h2,rfl,rfl,rfl⟩
 ·cases hc
theorem xE{call:iD}(iU:iY P call){ops l2:List Oper}{Q:Exit→Act→World→Prop}:∀(l:List Oper) (ds:List aJ) (h:aA) (c:Ctx) (env:Env) (a:Act) (aT:Env) (h':aA),
  l.mapM (dI P ops .write 0)=some ds→eO call ds env h=some (aT,h')→Rel h c→cI c env a→(∀a' w',St c h' aT a' w'→wpList P ops.toArray Q l2 a' w')→wpList P ops.toArray Q (l++l2) a c.w:=by
 intro l
 induction l with
 | nil =>
  intro ds h c env a aT h' hm hr hR hE hQ
  simp only[List.mapM_nil,Option.pure_def,Option.some.injEq]at hm
  subst hm
  cases hr
  exact hQ a c.w ⟨c.ρ,by rw[hR.same];exact⟨hR,.refl c,hE⟩⟩
 | cons o l ih =>
  intro ds h c env a aT h' hm hr hR hE hQ
  simp only[List.mapM_cons,Option.pure_def,Option.bind_eq_bind,Option.bind_eq_some_iff]at hm
  obtain⟨d,hd,ds',Cn,hm⟩:=hm
  cases hm
  obtain⟨h1,h2,h3,_,_⟩:=iM hd
  refine wpList_step fun K hK=>?_
  simp only[eO]at hr
  split at hr
  ·rename_i hw
   rw[if_pos (gK h2 hE hw)]
   split at hr
   ·rename_i v Zf zT
    refine sB iU h1 hR hE zT K Q fun u w' hp=>?_
    obtain⟨ρ',k1,k2,k3⟩:=hp
    refine hK _ _ (ih ds' Zf (c.next w' ρ' Zf) _ (a.put o.dst u) aT h' Cn hr k1 ?_ fun a' w'' dD=>hQ _ _ (dD.trans k2))
    rw[←h3]
    exact(hE.mono k2).put k3 _
   ·cases hr
  ·rename_i hw
   rw[if_neg (by rw[gK h2 hE hw];simp)]
   refine hK _ _ (ih ds' h c _ (a.put o.dst Go.undef) aT h' Cn hr hR ?_ hQ)
   rw[←h3]
   exact hE.put .undef _
  ·cases hr
theorem wI{call:iD}(iU:iY P call){ops:List Oper}{Q:Exit→Act→World→Prop}(l:List Oper)(ds:List aJ)(h:aA)(c:Ctx)(env:Env)(a:Act)(aT:Env)(h':aA)
  (hm:l.mapM (dI P ops .write 0)=some ds) (hr:eO call ds env h=some (aT,h')) (hR:Rel h c) (hE:cI c env a) (hQ:∀a' w',St c h' aT a' w'→Q .normal a' w'):wpList P ops.toArray Q l a c.w:=by
 have:=xE iU (l2:=[]) l ds h c env a aT h' hm hr hR hE fun a' w' dD=>wpList_nil (hQ a' w' dD)
 rwa[List.append_nil]at this
def uW(a:Act):ResultVar→Sem Value
 | .tmp t=>pure (a.tmps.getD t Go.undef)
 | .cell x t=>do loadVar t (←asAddr (a.tmps.getD x Go.undef))
theorem Fi(fn:Func)(a:Act):results fn a.tmps=(fn.results.mapM (uW a) >>= fun vs=>pure (if h:vs.size=1 then vs[0]else .tuple vs)):=by
 unfold results
 congr 1
theorem P3{rv:ResultVar}{dr:Kd}(hc:Aj P rv=some dr)(hR:Rel h c)(hE:cI c env a){d:DV}(hs:jN h env dr=some d) :
  ∃ v,(uW a rv).run P c.w=.ok v c.w∧VR c d v:=by
 unfold Aj at hc
 split at hc
 ·rename_i t
  cases hc
  simp only[jN,Option.some.injEq]at hs
  subst hs
  exact⟨_,by simp only[uW,Sem.run_pure],hE.get t⟩
 ·rename_i x t
  split at hc
  ·rename_i n hn
   cases hc
   simp only[jN]at hs
   obtain⟨b,o,off,cs,e1,e2,e3⟩:=Gh hR (hE.get x) hs
   obtain⟨u,f1,f2⟩:=Fn (P:=P) e2 e3 hn
   exact⟨u,by simp only[uW,e1,Sem.run_bind,asAddr,Sem.run_pure,Result.andThen_ok];exact f1,f2⟩
  ·cases hc
theorem DQ{α:Type}(f:α→Sem Value)(w:World):∀(l:List α) (vs:List Value),l.length=vs.length→(∀i (h1:i<l.length) (h2:i<vs.length),(f l[i]).run P w=.ok vs[i] w)→(l.mapM f).run P w=.ok vs w:=by
 intro l
 induction l with
 | nil=>intro vs hl _;cases vs with|nil=>simp|cons=>simp at hl
 | cons x l ih =>
  intro vs hl hv
  cases vs with
  | nil=>simp at hl
  | cons v vs =>
   have h0:=hv 0 (by simp) (by simp)
   simp only[List.getElem_cons_zero]at h0
   have:=ih vs (by simpa using hl) (fun i h1 h2=>by have:=hv (i+1) (by simpa using h1) (by simpa using h2);simpa only[List.getElem_cons_succ]using this)
   simp[List.mapM_cons,h0,this]
theorem Jd{fn:Func}{rs:List Kd}(hc:fn.results.toList.mapM (Aj P)=some rs)(hR:Rel h c)(hE:cI c env a){d:DV}(hs:aL h env rs=some d) :
  ∃ v,(results fn a.tmps).run P c.w=.ok v c.w∧VR c d v:=by
 have hl:=cJ _ _ _ hc
 have main:∀ds:List DV,rs.mapM (jN h env)=some ds→∃ vs:List Value,ds.length=vs.length∧(∀i (h1:i<ds.length) (h2:i<vs.length),VR c ds[i] vs[i]) ∧
   (fn.results.mapM (uW a)).run P c.w=.ok vs.toArray c.w:=by
  intro ds Cn
  have OX:=cJ _ _ _ Cn
  have each:∀i (hi:i<fn.results.toList.length),∃ v,(uW a fn.results.toList[i]).run P c.w=.ok v c.w∧VR c (ds[i]'(by omega)) v :=
   fun i hi=>P3 (eW _ _ _ hc i hi (by omega)) hR hE (eW _ _ _ Cn i (by omega) (by omega))
  let vs:List Value:=(List.range fn.results.toList.length).map fun i=>if hi:i<fn.results.toList.length then Classical.choose (each i hi)else Go.undef
  have hvl:vs.length=fn.results.toList.length:=by simp[vs]
  have hvi:∀i (hi:i<fn.results.toList.length),vs[i]'(by omega)=Classical.choose (each i hi):=fun i hi=>by simp only[vs,List.getElem_map,List.getElem_range,dif_pos hi]
  refine⟨vs,by omega,fun i h1 h2=>?_,?_⟩
  ·rw[hvi i (by omega)]
   exact(Classical.choose_spec (each i (by omega))).2
  ·rw[Array.mapM_eq_mapM_toList]
   have:=DQ (P:=P) (uW a) c.w fn.results.toList vs hvl.symm
    (fun i h1 h2=>by rw[hvi i h1];exact(Classical.choose_spec (each i h1)).1)
   simp only[Sem.run_map,this]
   rfl
 unfold aL at hs
 rw[Fi]
 split at hs
 ·rename_i rr
  obtain⟨vs,k1,k2,k3⟩:=main [d] (by simp[hs])
  have hv1:vs.length=1:=by rw[←k1];rfl
  refine⟨vs[0]'(by omega),?_,k2 0 (by simp) (by omega)⟩
  simp only[Sem.run_bind,k3,Result.andThen_ok]
  simp[hv1]
 ·rename_i cY
  split at hs
  ·rename_i ds Cn
   cases hs
   obtain⟨vs,k1,k2,k3⟩:=main ds Cn
   have OX:=cJ _ _ _ Cn
   have hv1:vs.length≠1:=by
    intro e
    have:rs.length=1:=by omega
    obtain⟨x,hx⟩:=List.length_eq_one_iff.1 this
    exact cY x hx
   refine⟨.tuple vs.toArray,?_,.tup k1 k2⟩
   simp only[Sem.run_bind,k3,Result.andThen_ok]
   simp[hv1]
  ·cases hs
end
end Go.Dm
/-
Part 34 of "Dm" (ahead of part 21): when two data, two objects, two heaps are the same.
-/
namespace Go.Dm
mutual
theorem DV.beq_eq:∀(a b:DV),DV.beq a b=true→a=b:=by
 intro a b h
 cases a<;>cases b<;>simp only[DV.beq,Bool.false_eq_true]at h<;>try rfl
 all_goals try simp only[Bool.and_eq_true,decide_eq_true_eq,beq_iff_eq,Nat.beq_eq]at h
 case bool=>rw[h]
 case int=>rw[h.1,h.2]
 case str=>rw[h]
 case ptr=>obtain⟨⟨⟨h1,h2⟩,h3⟩,h4⟩:=h;rw[h1,h2,h3,h4]
 case sl=>obtain⟨⟨⟨h1,h2⟩,h3⟩,h4⟩:=h;rw[h1,h2,h3,h4]
 case iptr=>obtain⟨⟨h1,h2⟩,h3⟩:=h;rw[h1,h2,pC _ _ h3]
 case isl=>obtain⟨⟨h1,h2⟩,h3⟩:=h;rw[h1,h2,pC _ _ h3]
 case map=>rw[h]
 case tok=>rw[h]
 case atl=>rw[h]
 case func=>rw[h.1,pC _ _ h.2]
 case iface=>rw[h.1,DV.beq_eq _ _ h.2]
 case agg=>rw[pC _ _ h]
 case tup=>rw[pC _ _ h]
theorem pC:∀(a b:List DV),rO a b=true→a=b:=by
 intro a b h
 cases a<;>cases b<;>simp only[rO,Bool.false_eq_true,Bool.and_eq_true]at h<;>try rfl
 rw[DV.beq_eq _ _ h.1,pC _ _ h.2]
end
theorem I9{p q:DV×DV}(h:B0 p q=true):p=q:=by
 simp only[B0,Bool.and_eq_true]at h
 exact Prod.ext (DV.beq_eq _ _ h.1) (DV.beq_eq _ _ h.2)
theorem GA:∀{a b:List (DV×DV)},Hz a b=true→a=b:=by
 intro a
 induction a with
 | nil=>intro b h;cases b<;>simp only[Hz,Bool.false_eq_true]at h;rfl
 | cons x r ih =>
  intro b h
  cases b<;>simp only[Hz,Bool.false_eq_true,Bool.and_eq_true]at h
  rw[I9 h.1,ih h.2]
theorem Fa{a b:DO}(h:uR a b=true):a=b:=by
 cases a<;>cases b<;>simp only[uR,Bool.false_eq_true]at h<;>try rfl
 case arr e1 s1 x1 c1 e2 s2 x2 c2 =>
  simp only[Bool.and_eq_true,Nat.beq_eq]at h
  obtain⟨⟨⟨h1,h2⟩,h3⟩,h4⟩:=h
  have hc:c1=c2:=by
   cases c1<;>cases c2<;>simp only[PU,Bool.false_eq_true,Nat.beq_eq]at h3<;>try rfl
   rw[h3]
  rw[h1,h2,hc,pC _ _ h4]
 case mp x1 x2=>rw[GA h]
theorem Ui:∀(n:Nat) (a b:List DO) (id:Nat),id<n→id ∉ Uj n a b→a[n-1-id]?=b[n-1-id]?:=by
 intro n
 induction n with
 | zero=>intro a b id eK _;omega
 | succ n ih =>
  intro a b id eK hn
  cases a with
  | nil=>cases b with
   | nil=>rfl
   | cons y s=>exact absurd (List.mem_range.2 eK) hn
  | cons x r=>cases b with
   | nil=>exact absurd (List.mem_range.2 eK) hn
   | cons y s =>
    simp only[Uj]at hn
    by_cases he:id=n
    ·subst he
     have:id+1-1-id=0:=by omega
     rw[this]
     split at hn
     ·rename_i hs
      simp only[List.getElem?_cons_zero]
      rw[Fa hs]
     ·exact absurd (List.mem_cons_self ..) hn
    ·have h1:n+1-1-id=(n-1-id)+1:=by omega
     rw[h1,List.getElem?_cons_succ,List.getElem?_cons_succ]
     refine ih r s id (by omega) fun hm=>hn ?_
     split
     ·exact hm
     ·exact List.mem_cons_of_mem _ hm
theorem xI{h h':aA}{id:Nat}(eK:id<h.n)(hn:id ∉ wP h h'):h'.get id=h.get id:=by
 unfold wP at hn
 split at hn
 ·rename_i cM
  have:=Ui _ _ _ id eK hn
  have h2:id<h'.n:=Nat.lt_of_lt_of_le eK cM
  unfold aA.get
  rw[if_pos eK,if_pos h2,this,List.getElem?_drop]
  congr 1
  omega
 ·exact absurd (List.mem_range.2 eK) hn
end Go.Dm
/-
Part 21 of "Dm": a region with an open order: its run in an order of our own, by positions.
-/
namespace Go.Dm
structure Fit(P:Program)(ops:List Oper)(cA:List (Nat×aJ))(bs:List Nat):Prop where
 edge:∀j o e,ops[j]?=some o→e∈o.after.toList→Region.binds .any e=true→mJ bs j e.on=true∧e.on<j
 clos:∀j o i,ops[j]?=some o→i<ops.length→mJ bs j i=true→∃ e,e∈o.after.toList∧Region.binds .any e=true∧(e.on=i∨mJ bs e.on i=true)
 all:∀i,i<ops.length→∃ (p:Nat) (x:Nat×aJ),cA[p]?=some x∧x.1=i
 comp:∀(p:Nat) (x:Nat×aJ),cA[p]?=some x→∃ o k s d,ops[x.1]?=some o∧dI P ops k s o=some d∧d.op=x.2.op∧d.guard=x.2.guard∧d.dst=x.2.dst
 kind:∀(p:Nat) (x:Nat×aJ),cA[p]?=some x→nR x.2=true
 pair:∀(p q:Nat) (x y:Nat×aJ),p<q→cA[p]?=some x→cA[q]?=some y→x.1≠y.1∧mJ bs x.1 y.1=false∧uY (mJ bs y.1 x.1) (Be cA p) x.2 y.2=true
theorem sV{α:Type}{l:List α}{f:α×Nat→Bool}(h:l.zipIdx.all f=true){j:Nat}{x:α}(hx:l[j]?=some x):f (x,j)=true:=by
 have:=List.all_eq_true.1 h (x,j) (by rw[List.mem_zipIdx_iff_getElem?];simpa using hx)
 exact this
theorem eX{P:Program}{ops:List Oper}{dc:aN}(hc:fI P ops true=some dc):∃ (cA:List (Nat×aJ)) (bs:List Nat),dc=.draw (cA.map (·.2))∧Fit P ops cA bs:=by
 simp only[fI,if_true]at hc
 split at hc
 ·cases hc
 ·rename_i dops hd
  split at hc
  ·rename_i cA hdis
   split at hc
   ·rename_i MI
    cases hc
    refine⟨cA,bits ops,rfl,?_⟩
    simp only[FL,Bool.and_eq_true]at MI
    obtain⟨⟨⟨⟨k1,k2⟩,k3⟩,k4⟩,k5⟩:=MI
    refine⟨fun j o e ho he hb=>?_,fun j o i ho hi hb=>?_,fun i hi=>?_,fun p x hx=>?_,fun p x hx=>?_,fun p q x y F7 hx hy=>?_⟩
    ·have:=List.all_eq_true.1 (sV k1 ho) e he
     simp only[hb,Bool.not_true,Bool.false_or,Bool.and_eq_true,decide_eq_true_eq]at this
     exact this
    ·have:=List.all_eq_true.1 (sV k2 ho) i (List.mem_range.2 hi)
     simp only[hb,Bool.not_true,Bool.false_or,List.any_eq_true,Bool.and_eq_true,Bool.or_eq_true,beq_iff_eq]at this
     obtain⟨e,h1,h2,h3⟩:=this
     exact⟨e,h1,h2,h3⟩
    ·have:=List.all_eq_true.1 k3 i (List.mem_range.2 hi)
     simp only[List.any_eq_true,beq_iff_eq]at this
     obtain⟨x,h1,h2⟩:=this
     obtain⟨p,hp⟩:=List.mem_iff_getElem?.1 h1
     exact⟨p,x,hp,h2⟩
    ·obtain⟨aY,Im⟩:=List.getElem?_eq_some_iff.1 hx
     have hl:=cJ _ _ _ hdis
     have:=eW _ _ _ hdis p (by omega) aY
     rw[Im]at this
     split at this
     ·rename_i o ho
      simp only[Option.map_eq_some_iff]at this
      obtain⟨d,hd,he⟩:=this
      subst he
      exact⟨o,_,_,d,ho,hd,rfl,rfl,rfl⟩
     ·cases this
    ·exact List.all_eq_true.1 k4 x (List.mem_of_getElem? hx)
    ·have h1:=sV k5 hy
     have Im:(cA.take q)[p]?=some x:=by rw[List.getElem?_take_of_lt F7];exact hx
     have h2:=sV h1 Im
     simp only[Bool.and_eq_true,bne_iff_ne,ne_eq,Bool.not_eq_true']at h2
     exact⟨h2.1.1,h2.1.2,h2.2⟩
   ·cases hc
  ·cases hc
def GE(call:iD)(d:aJ)(env:Env)(hs:List aA)(L:cK)(b:Bool)(v:DV)(Ar:List aA)(L':cK):Prop :=
 gN env d.guard=some b∧∃ g gs,hs=g::gs ∧
  (b=false→v=bN∧(Ar=if d.kind=.read then hs else g::hs)∧L'=L) ∧
  (b=true→(d.kind=.read∧Ar=hs∧(∃ h0 h1,iG hs d.snap=some h0∧aC h0 env d.op=some (v,h1))∧L.free d.snap (bT env d.op)=true∧L'=L.see d.calm (mark env d.op)) ∨
   (d.kind=.write∧L'=L∧∃ h1,bH call d.op env g=some (v,h1)∧Ar=h1::hs) ∨
   (d.kind=.create∧L'=L∧∃ h0 h1,iG hs d.snap=some h0∧lX call h0.n d.op env g=some (v,h1)∧Ar=h1::hs) ∨
   (d.kind=.create∧∃ (ids:List Nat) (h1:aA),bH call d.op env g=some (v,h1)∧(∀id,id<g.n→id ∉ ids→h1.get id=g.get id)∧(∀r,r∈L.rds→r.1<g.n→jU r g h1)∧Ar=h1::hs∧L'={L with pks:=ids.map (fun id=>(gs.length,id))++L.pks}))
structure fC(call:iD)(ds:List aJ)(env:Env)(hs:List aA)(L0:cK)(E:Nat→Env)(HS:Nat→List aA)(LS:Nat→cK)(V:Nat→DV)(B:Nat→Bool):Prop where
 E0:E 0=env
 H0:HS 0=hs
 L0:LS 0=L0
 step:∀p d,ds[p]?=some d→GE call d (E p) (HS p) (LS p) (B p) (V p) (HS (p+1)) (LS (p+1))∧E (p+1)=put (E p) d.dst (V p)
theorem xJ{g h1:aA}{ety sz bytes id' s0 off len id:Nat}{ys:List DV}{v:DV}(hs:bF g ety sz bytes (.sl id' s0 off len) ys=some (v,h1))(eK:id<g.n)(cY:id'≠id):h1.get id=g.get id:=by
 unfold bF at hs
 simp only at hs
 split at hs
 ·cases hs;rfl
 ·split at hs
  ·rename_i hg
   split at hs
   ·split at hs
    ·split at hs
     ·cases hs;exact bD (dH hg) (fun e=>cY e.symm)
     ·cases hs
    ·split at hs
     ·cases hs;exact bP eK
     ·split at hs
      ·cases hs
       rw[bP (by exact eK)]
       exact bD (dH hg) (fun e=>cY e.symm)
      ·cases hs
   ·cases hs
  ·cases hs
theorem Fm{L:cK}{env:Env}{o:DOp}{id' id:Nat}{g h1:aA}{v:DV}(hp:kZ L env o=some id')(hs:aC g env o=some (v,h1))(eK:id<g.n)(cY:id'≠id):h1.get id=g.get id:=by
 cases o<;>simp only[kZ]at hp<;>try (cases hp;done)
 case store n a x =>
  split at hp
  ·rename_i i1 s1 x1 o1 G2
   split at hp
   ·cases hp
    simp only[aC,G2]at hs
    split at hs
    ·rename_i h2 dD
     cases hs
     unfold kX at dD
     simp only at dD
     split at dD
     ·rename_i hgid
      split at dD
      ·split at dD
       ·split at dD
        ·cases dD;exact bD (dH hgid) (fun e=>cY e.symm)
        ·cases dD
       ·cases dD
      ·cases dD
     ·cases dD
    ·cases hs
   ·cases hp
  ·cases hp
 case append e sz b a x =>
  split at hp
  ·rename_i G2
   split at hp
   ·cases hp
    simp only[aC,G2]at hs
    split at hs
    ·exact xJ hs eK cY
    ·cases hs
   ·cases hp
  ·cases hp
 case appendZ e sz b z a x =>
  split at hp
  ·rename_i G2
   split at hp
   ·cases hp
    simp only[aC,G2]at hs
    split at hs
    ·split at hs
     ·exact xJ hs eK cY
     ·cases hs
    ·cases hs
   ·cases hp
  ·cases hp
theorem Om{h:aA}{id:Nat}{o o':DO}(hg:h.get id=some o):(h.set id o').get id=some o':=by
 have aY:=dH hg
 unfold aA.get at hg ⊢
 rw[if_pos aY]at hg
 show(if id<h.n then(h.objs.set (h.n-1-id) o')[h.n-1-id]? else none)=some o'
 rw[if_pos aY,List.getElem?_set_self (List.getElem?_eq_some_iff.1 hg).1]
theorem Ub{sz off n:Nat}{e x:DV}(hx:aU n x=true)(hl:(aF sz e).length=sz)(ho:off+n≤sz){j:Nat}(hj:j<off∨off+n≤j):(aF sz (turn sz off n e x))[j]?=(aF sz e)[j]?:=by
 have hxl:(aF n x).length=n:=by
  unfold aU at hx
  split at hx
  ·cases hx
  ·cases hx
  ·cases hx
  ·simpa[aF]using hx
  ·have:n=1:=by simpa using hx
   subst this
   cases x<;>simp_all[aF]
 unfold turn
 split
 ·rename_i h
  have:j ≥ sz:=by omega
  have hxl':(aF sz x).length=sz:=by rw[←h.2];exact hxl
  rw[List.getElem?_eq_none (by omega),List.getElem?_eq_none (by omega)]
 ·show((aF sz e).take off++aF n x++(aF sz e).drop (off+n))[j]?=_
  have ht:((aF sz e).take off).length=off:=by rw[List.length_take];omega
  rcases hj with hj|hj
  ·rw[List.append_assoc,List.getElem?_append_left (by omega),List.getElem?_take_of_lt hj]
  ·rw[List.getElem?_append_right (by rw[List.length_append];omega),List.getElem?_drop,List.length_append,ht,hxl]
   congr 1
   omega
theorem Dk{sz off n:Nat}{e x:DV}(hx:aU n x=true)(hl:(aF sz e).length=sz)(ho:off+n≤sz):(aF sz (turn sz off n e x)).length=sz:=by
 have hxl:(aF n x).length=n:=by
  unfold aU at hx
  split at hx
  ·cases hx
  ·cases hx
  ·cases hx
  ·simpa[aF]using hx
  ·have:n=1:=by simpa using hx
   subst this
   cases x<;>simp_all[aF]
 unfold turn
 split
 ·rename_i h;rw[←h.2];exact hxl
 ·show((aF sz e).take off++aF n x++(aF sz e).drop (off+n)).length=sz
  simp only[List.length_append,List.length_take,List.length_drop]
  omega
theorem Xx{m:Option Nat}{xs ys:List DV}{o:Nat}(hl:xs.length=ys.length)(h:∀j,o≤j→j<o+Ee m→xs[j]?=ys[j]?):dB m xs o=dB m ys o:=by
 cases m with
 | none=>exact h o (Nat.le_refl _) (Nat.lt_succ_self _)
 | some k =>
  simp only[dB,hl]
  split
  ·congr 2
   refine List.ext_getElem? fun i=>?_
   simp only[List.getElem?_take,List.getElem?_drop]
   split
   ·exact h (o+i) (by omega) (by show o+i<o+k;omega)
   ·rfl
  ·rfl
theorem Ql{g h1:aA}{n id sz idx off:Nat}{x:DV}(hs:kX g n (.ptr id sz idx off) x=some h1){p:kC}(ha:oU p n idx off=true):jU (id,p) g h1:=by
 unfold kX at hs
 simp only at hs
 split at hs
 ·rename_i ety dT xs cap hg
  split at hs
  ·rename_i hc
   obtain⟨rfl,_,dD,hoff⟩:=hc
   split at hs
   ·rename_i e he
    split at hs
    ·rename_i nI
     cases hs
     cases p with
     | none=>cases ha
     | some q =>
      obtain⟨m,dT,i,o⟩:=q
      have Bj:(g.set id (.arr ety sz (xs.set idx (turn sz off n e x)) cap)).get id=some (.arr ety sz (xs.set idx (turn sz off n e x)) cap):=Om hg
      unfold jU
      simp only[kB,Bj,hg]
      split
      ·rename_i eI
       subst eI
       simp only[oU,Bool.or_eq_true,Bool.not_eq_true',Nat.ble_eq]at ha
       by_cases hi:i=idx
       ·subst hi
        have aY:=(List.getElem?_eq_some_iff.1 he).1
        rw[List.getElem?_set_self aY,he]
        refine Xx (by rw[Dk dD nI hoff,nI]) fun j j1 j2=>Ub dD nI hoff ?_
        rcases ha with(ha|ha)|ha
        ·simp at ha
        ·omega
        ·omega
       ·rw[List.getElem?_set_ne (fun e=>hi e.symm)]
      ·rfl
    ·cases hs
   ·cases hs
  ·cases hs
 ·cases hs
theorem Sb{L:cK}{env:Env}{o:DOp}{id:Nat}{g h1:aA}{v:DV}(hp:kZ L env o=some id)(hs:aC g env o=some (v,h1)):∀r,r∈L.rds→r.1<g.n→jU r g h1:=by
 intro r hr hn
 by_cases cY:id=r.1
 ·subst cY
  have un:∀i:Nat,(if(L.rds.all fun x=>!(Nat.beq x.1 i))=true then some i else none)=some r.1→False:=by
   intro i hi
   split at hi
   ·rename_i gO
    cases hi
    have:=List.all_eq_true.1 gO r hr
    simp at this
   ·cases hi
  unfold kZ at hp
  split at hp
  ·rename_i n a x
   split at hp
   ·rename_i i1 sz idx off G2
    split at hp
    ·rename_i gO
     cases hp
     have ha:=List.all_eq_true.1 gO r hr
     simp only[Nat.beq_refl,Bool.not_true,Bool.false_or]at ha
     simp only[aC,G2]at hs
     split at hs
     ·rename_i h2 dD
      cases hs
      exact Ql dD ha
     ·cases hs
    ·cases hp
   ·cases hp
  ·split at hp
   ·exact(un _ hp).elim
   ·cases hp
  ·split at hp
   ·exact(un _ hp).elim
   ·cases hp
  ·cases hp
 ·exact .of_get (Fm hp hs hn cY)
theorem Lq{call:iD}:∀(ds:List aJ) (env aT:Env) (hs:List aA) (L:cK) (h':aA),dP call ds env hs L=some (aT,h') →
  ∃ E HS LS V B,fC call ds env hs L E HS LS V B∧E ds.length=aT∧∃ gs,HS ds.length=h'::gs:=by
 intro ds
 induction ds with
 | nil =>
  intro env aT hs L h' hr
  cases hs with
  | nil=>cases hr
  | cons h hs =>
   cases hr
   exact⟨fun _=>env,fun _=>h'::hs,fun _=>L,fun _=>.unk,fun _=>false,⟨rfl,rfl,rfl,fun p d hd=>by simp at hd⟩,rfl,hs,rfl⟩
 | cons o r ih =>
  intro env aT hs L h' hr
  have key:∀b v hs1 L1,GE call o env hs L b v hs1 L1→dP call r (put env o.dst v) hs1 L1=some (aT,h') →
    ∃ E HS LS V B,fC call (o::r) env hs L E HS LS V B∧E (o::r).length=aT∧∃ gs,HS (o::r).length=h'::gs:=by
   intro b v hs1 L1 dD hr1
   obtain⟨E,HS,LS,V,B,ht,h1,h2⟩:=ih _ _ _ _ _ hr1
   refine⟨fun p=>match p with|0=>env|p+1=>E p,fun p=>match p with|0=>hs|p+1=>HS p,fun p=>match p with|0=>L|p+1=>LS p,fun p=>match p with|0=>v|p+1=>V p,fun p=>match p with|0=>b|p+1=>B p,⟨rfl,rfl,rfl,?_⟩,h1,h2⟩
   intro p d hd
   cases p with
   | zero =>
    simp only[List.getElem?_cons_zero,Option.some.injEq]at hd
    subst hd
    exact⟨by simpa only[ht.H0,ht.L0]using dD,by simp only[ht.E0]⟩
   | succ p=>exact ht.step p d (by simpa using hd)
  cases hs with
  | nil=>simp[dP]at hr
  | cons h hs =>
   simp only[dP]at hr
   split at hr
   ·cases hr
   ·rename_i hw
    split at hr
    ·rename_i hk
     split at hr
     ·rename_i hfree
      split at hr
      ·rename_i h0 KD
       split at hr
       ·rename_i v h1 dD
        exact key true v _ _ ⟨hw,h,hs,rfl,fun e=>(by cases e),fun _=>.inl ⟨hk,rfl,⟨h0,h1,KD,dD⟩,hfree,rfl⟩⟩ hr
       ·cases hr
      ·cases hr
     ·cases hr
    ·rename_i hk
     split at hr
     ·rename_i v h1 dD
      exact key true v _ _ ⟨hw,h,hs,rfl,fun e=>(by cases e),fun _=>.inr (.inl ⟨hk,rfl,h1,dD,rfl⟩)⟩ hr
     ·cases hr
    ·rename_i hk
     split at hr
     ·rename_i h0 KD
      split at hr
      ·rename_i v h1 L1 dD
       refine key true v _ _ ⟨hw,h,hs,rfl,fun e=>(by cases e),fun _=>.inr (.inr ?_)⟩ hr
       unfold cT at dD
       split at dD
       ·rename_i id eK
        split at dD
        ·rename_i h3
         cases dD
         refine .inr ⟨hk,[id],h1,by rw[Xw eK];exact h3,fun i hi cY=>Fm eK h3 hi (fun e=>cY (by rw[e];exact List.mem_singleton.2 rfl)),Sb eK h3,rfl,rfl⟩
        ·cases dD
       ·split at dD
        ·unfold lR at dD
         split at dD
         ·split at dD
          ·rename_i h3
           split at dD
           ·rename_i gO
            cases dD
            exact .inr ⟨hk,_,h1,h3,fun i hi cY=>xI hi cY,fun r hr hn=>.of_get (xI hn fun hm=>by
             have:=List.all_eq_true.1 (List.all_eq_true.1 gO _ hm) r hr
             simp at this),rfl,rfl⟩
           ·cases dD
          ·cases dD
         ·cases dD
        ·split at dD
         ·rename_i h3;cases dD;exact .inl ⟨hk,rfl,h0,h1,KD,h3,rfl⟩
         ·cases dD
      ·cases hr
     ·cases hr
   ·rename_i hw
    exact key false bN _ _ ⟨hw,h,hs,rfl,fun _=>⟨rfl,rfl,rfl⟩,fun e=>(by cases e)⟩ hr
def aR(hs:List aA):aA:=hs.headD default
section
variable {call:iD} {ds:List aJ} {env:Env} {h:aA} {E:Nat→Env} {HS:Nat→List aA} {LS:Nat→cK} {V:Nat→DV} {B:Nat→Bool}
def iE(ds:List aJ)(p:Nat):Nat:=((ds.take p).filter fun x=>x.kind != .read).length
theorem tD{p:Nat}{d:aJ}(hd:ds[p]?=some d):iE ds (p+1)=iE ds p+(if d.kind=.read then 0 else 1):=by
 obtain⟨aY,he⟩:=List.getElem?_eq_some_iff.1 hd
 unfold iE
 rw[List.take_succ_eq_append_getElem aY,List.filter_append,List.length_append,he]
 cases hk:d.kind<;>simp[hk]
theorem mO{p q:Nat}(F7:p≤q):iE ds p≤iE ds q:=by
 unfold iE
 have:(ds.take p).filter (fun x=>x.kind != .read) <+: (ds.take q).filter (fun x=>x.kind != .read):=(List.take_prefix_take_left F7).filter _
 exact this.length_le
theorem fC.shape(T:fC call ds env [h] .start E HS LS V B):∀p,p≤ds.length→HS p≠[]∧(HS p).length=iE ds p+1:=by
 intro p
 induction p with
 | zero=>intro _;rw[T.H0];simp[iE]
 | succ p ih =>
  intro hp
  obtain⟨d,hd⟩:∃ d,ds[p]?=some d:=⟨ds[p]'(by omega),List.getElem?_eq_getElem (by omega)⟩
  obtain⟨i1,i2⟩:=ih (by omega)
  obtain⟨⟨hw,g,gs,hg,hf,ht⟩,_⟩:=T.step p d hd
  rw[tD hd]
  cases hb:B p with
  | false =>
   obtain⟨_,e,_⟩:=hf hb
   rw[e]
   split
   ·exact⟨i1,by omega⟩
   ·exact⟨by simp,by simp[i2]⟩
  | true =>
   rcases ht hb with⟨hk,e,_⟩|⟨hk,_,h1,_,e⟩|⟨hk,_,h0,h1,_,_,e⟩|⟨hk,id,h1,_,_,_,e,_⟩<;>rw[e,hk]
   ·exact⟨i1,by simp[i2]⟩
   ·exact⟨by simp,by simp[i2]⟩
   ·exact⟨by simp,by simp[i2]⟩
   ·exact⟨by simp,by simp[i2]⟩
theorem fC.heap(T:fC call ds env [h] .start E HS LS V B){p:Nat}{d:aJ}(hd:ds[p]?=some d) :
  (d.kind=.read∧HS (p+1)=HS p)∨(d.kind≠.read∧HS (p+1)=aR (HS (p+1))::HS p):=by
 obtain⟨⟨hw,g,gs,hg,hf,ht⟩,_⟩:=T.step p d hd
 cases hb:B p with
 | false =>
  obtain⟨_,e,_⟩:=hf hb
  split at e
  ·rename_i hk;exact .inl ⟨hk,e⟩
  ·rename_i hk;exact .inr ⟨hk,by rw[e];simp[aR]⟩
 | true =>
  rcases ht hb with⟨hk,e,_⟩|⟨hk,_,h1,_,e⟩|⟨hk,_,h0,h1,_,_,e⟩|⟨hk,id,h1,_,_,_,e,_⟩
  ·exact .inl ⟨hk,e⟩
  ·exact .inr ⟨by rw[hk];simp,by rw[e];simp[aR]⟩
  ·exact .inr ⟨by rw[hk];simp,by rw[e];simp[aR]⟩
  ·exact .inr ⟨by rw[hk];simp,by rw[e];simp[aR]⟩
theorem fC.snap(T:fC call ds env [h] .start E HS LS V B):∀p,p≤ds.length→∀s h0,iG (HS p) s=some h0→∃ m,m≤p∧h0=aR (HS m)∧iE ds m=s:=by
 intro p
 induction p with
 | zero =>
  intro _ s h0 hs
  rw[T.H0]at hs
  unfold iG at hs
  split at hs
  ·rename_i aY
   simp only[List.length_singleton,Nat.lt_one_iff]at aY
   subst aY
   simp at hs
   exact⟨0,Nat.le_refl _,by rw[T.H0];exact hs.symm,rfl⟩
  ·cases hs
 | succ p ih =>
  intro hp s h0 hs
  obtain⟨d,hd⟩:∃ d,ds[p]?=some d:=⟨ds[p]'(by omega),List.getElem?_eq_getElem (by omega)⟩
  have hl:=(T.shape p (by omega)).2
  rcases T.heap hd with⟨hk,e⟩|⟨hk,e⟩
  ·rw[e]at hs
   obtain⟨m,h1,h2,h3⟩:=ih (by omega) s h0 hs
   exact⟨m,by omega,h2,h3⟩
  ·rw[e]at hs
   unfold iG at hs
   split at hs
   ·rename_i aY
    simp only[List.length_cons]at aY hs
    by_cases Ar:s=(HS p).length
    ·subst Ar
     simp only[Nat.add_sub_cancel,Nat.sub_self,List.getElem?_cons_zero,Option.some.injEq]at hs
     exact⟨p+1,Nat.le_refl _,hs.symm,by rw[tD hd,if_neg hk,hl]⟩
    ·have:(HS p).length+1-1-s=((HS p).length-1-s)+1:=by omega
     rw[this,List.getElem?_cons_succ]at hs
     obtain⟨m,h1,h2,h3⟩:=ih (by omega) s h0 (by unfold iG;rw[if_pos (by omega)];exact hs)
     exact⟨m,by omega,h2,h3⟩
   ·cases hs
theorem fC.keeps1(T:fC call ds env [h] .start E HS LS V B)(hc:dL call)(hl:h.lim≤h.n):∀p,p≤ds.length→(aR (HS p)).lim≤(aR (HS p)).n∧∀m,m≤p→dZ (aR (HS m)) (aR (HS p)):=by
 intro p
 induction p with
 | zero =>
  intro _
  refine⟨by rw[T.H0];exact hl,fun m hm=>?_⟩
  have:m=0:=by omega
  subst this
  exact .refl _
 | succ p ih =>
  intro hp
  obtain⟨d,hd⟩:∃ d,ds[p]?=some d:=⟨ds[p]'(by omega),List.getElem?_eq_getElem (by omega)⟩
  obtain⟨i1,i2⟩:=ih (by omega)
  have one:dZ (aR (HS p)) (aR (HS (p+1))):=by
   obtain⟨⟨hw,g,gs,hg,hf,ht⟩,_⟩:=T.step p d hd
   have Og:aR (HS p)=g:=by rw[hg];rfl
   cases hb:B p with
   | false =>
    obtain⟨_,e,_⟩:=hf hb
    rw[e]
    split
    ·exact .refl _
    ·rw[Og];exact .refl _
   | true =>
    rcases ht hb with⟨hk,e,_⟩|⟨hk,_,h1,h2,e⟩|⟨hk,_,h0,h1,h2,h3,e⟩|⟨hk,id,h1,h3,_,_,e,_⟩
    rotate_right
    ·rw[e,Og];exact jO hc (by rw[←Og];exact i1) h3
    ·rw[e];exact .refl _
    ·rw[e,Og];exact jO hc (by rw[←Og];exact i1) h2
    ·obtain⟨m,a1,a2,_⟩:=T.snap p (by omega) _ _ h2
     rw[e,Og]
     exact(tT hc (by rw[←Og];exact i1) (by rw[a2,←Og];exact(i2 m a1).n) h3).1
  refine⟨one.lim_le i1,fun m hm=>?_⟩
  by_cases e:m=p+1
  ·subst e;exact .refl _
  ·exact(i2 m (by omega)).trans one
theorem fC.keeps(T:fC call ds env [h] .start E HS LS V B)(hc:dL call)(hl:h.lim≤h.n){m p:Nat}(hm:m≤p)(hp:p≤ds.length):dZ (aR (HS m)) (aR (HS p)):=(T.keeps1 hc hl p hp).2 m hm
theorem fC.alloc(T:fC call ds env [h] .start E HS LS V B){p:Nat}{d:aJ}(hd:ds[p]?=some d)(ha:d.op.cls=.alloc)(hk:d.kind=.create)(hb:B p=true) :
  ∃ ety sz xs,Dc (E p) d.op=some (ety,sz,xs)∧V p=E7 (aR (HS p)).n d.op∧aR (HS (p+1))=(aR (HS p)).push (.arr ety sz xs (some xs.length)):=by
 obtain⟨⟨hw,g,gs,hg,hf,ht⟩,_⟩:=T.step p d hd
 have Og:aR (HS p)=g:=by rw[hg];rfl
 have yO:∀(c:iD) (h:aA),bH c d.op (E p) h=aC h (E p) d.op:=fun c h=>by
  rcases Hu ha with⟨ety,sz,z,e⟩|⟨ety,sz,z,len,parts,e⟩<;>rw[e]<;>rfl
 rcases ht hb with⟨qD,_⟩|⟨qD,_⟩|⟨_,_,h0,h1,h2,h3,e⟩|⟨_,id,h1,h2,_,_,e,_⟩
 ·rw[hk]at qD;cases qD
 ·rw[hk]at qD;cases qD
 ·unfold lX at h3
  rw[yO]at h3
  split at h3
  ·rename_i v h' h4
   simp only[Option.some.injEq,Prod.mk.injEq]at h3
   obtain⟨ety,sz,xs,m1,m2,m3⟩:=Bz ha h4
   rw[e,Og]
   refine⟨ety,sz,xs,m1,by rw[←h3.1,m2],?_⟩
   show h1=_
   rw[←h3.2,m3]
   rfl
  ·cases h3
 ·rw[yO]at h2
  obtain⟨ety,sz,xs,m1,m2,m3⟩:=Bz ha h2
  rw[e,Og]
  exact⟨ety,sz,xs,m1,m2,m3⟩
theorem fC.grows(T : fC call ds env [h] .start E HS LS V B)(hc : dL call)(hl : h.lim ≤ h.n){m s : Nat}(hs : iE ds m = s) : ∀ k, m ≤ k → k ≤ ds.length →
    (∀ (p : Nat) (d : aJ), m ≤ p → p < k → ds[p]? = some d → d.kind ≠ .read → d.op.cls = .alloc ∨ (d.kind = .create ∧ s ≤ d.snap)) →
    (∀ (p : Nat) (d : aJ), ds[p]? = some d → d.op.cls = .alloc → d.kind = .create) →
    ∀ r : Nat × kC, r.1 < (aR (HS m)).n → (∀ (p : Nat) (d : aJ), m ≤ p → p < k → ds[p]? = some d → d.kind = .create → d.op.cls ≠ .alloc → r ∈ (LS p).rds ∨ ((HS p).length - 1, r.1) ∉ (LS (p + 1)).pks) →
    jU r (aR (HS m)) (aR (HS k)) := by
  intro k
  induction k with
  | zero => intro hm _ _ _ id _ _; have : m = 0 := by omega
            subst this; exact .of_get rfl
  | succ k ih =>
    intro hm hk hw GV rr eK hnp
    by_cases e : m = k + 1
    · subst e; exact .of_get rfl
    obtain⟨d, hd⟩ : ∃ d, ds[k]? = some d := ⟨ds[k]'(by omega), List.getElem?_eq_getElem (by omega)⟩
    have i0 := ih (by omega) (by omega) (fun p d a1 a2 => hw p d a1 (by omega)) GV rr eK (fun p d a1 a2 => hnp p d a1 (by omega))
    refine i0.trans ?_
    have hn : rr.1 < (aR (HS k)).n := Nat.lt_of_lt_of_le eK (T.keeps hc hl (by omega : m ≤ k) (by omega)).n
    obtain⟨⟨hwd, g, gs, hg, hf, ht⟩, _⟩ := T.step k d hd
    have Og : aR (HS k) = g := by rw[hg]; rfl
    cases hb : B k with
    | false =>
      obtain⟨_, e, _⟩ := hf hb
      rw[e]
      split
      · exact .of_get rfl
      · rw[Og]; exact .of_get rfl
    | true =>
      by_cases Th : d.kind = .read
      · rcases ht hb with⟨_, e, _⟩ | ⟨qD, _⟩ | ⟨qD, _⟩ | ⟨qD, _⟩
        · rw[e]; exact .of_get rfl
        · rw[Th]at qD; cases qD
        · rw[Th]at qD; cases qD
        · rw[Th]at qD; cases qD
      · have hwk := hw k d (by omega) (by omega) hd Th
        have hsplit : d.op.cls = .alloc ∨ (d.op.cls ≠ .alloc ∧ d.kind = .create ∧ s ≤ d.snap) := by
          by_cases ha : d.op.cls = .alloc
          · exact .inl ha
          · exact .inr ⟨ha, hwk.resolve_left ha⟩
        rcases hsplit with ha | ⟨OV, hcr, hsn⟩
        · have hcr := GV k d hd ha
          obtain⟨ety, sz, xs, _, _, e⟩ := T.alloc hd ha hcr hb
          rw[e]
          exact .of_get (bP hn)
        · rcases ht hb with⟨qD, _⟩ | ⟨qD, _⟩ | ⟨_, _, h0, h1, h2, h3, e⟩ | ⟨_, ids, h1, _, h3, h4, e, eL⟩
          rotate_right
          · rw[e, Og]
            rcases hnp k d (by omega) (by omega) hd hcr OV with hm | hm
            · exact h4 rr hm (by rw[← Og]; exact hn)
            · refine .of_get (h3 rr.1 (by rw[← Og]; exact hn) fun e' => hm ?_)
              rw[eL, hg]
              exact List.mem_append_left _ (List.mem_map.2 ⟨rr.1, e', rfl⟩)
          · rw[hcr]at qD; cases qD
          · rw[hcr]at qD; cases qD
          · obtain⟨m', a1, a2, a3⟩ := T.snap k (by omega) _ _ h2
            rw[e, Og]
            have sR := T.keeps1 hc hl k (by omega)
            have zU : (aR (HS m)).n ≤ h0.n := by
              rw[a2]
              by_cases cM : m ≤ m'
              · exact(T.keeps hc hl cM (by omega)).n
              · have h4 : iE ds m' ≤ iE ds m := mO (by omega)
                have h5 : iE ds m' = iE ds m := by omega
                have same : ∀ q, m' ≤ q → q ≤ m → HS q = HS m' := by
                  intro q
                  induction q with
                  | zero => intro hq _; have : m' = 0 := by omega
                            subst this; rfl
                  | succ q iq =>
                    intro Yx Kz
                    by_cases eq : m' = q + 1
                    · subst eq; rfl
                    obtain⟨dq, hdq⟩ : ∃ d, ds[q]? = some d := ⟨ds[q]'(by omega), List.getElem?_eq_getElem (by omega)⟩
                    have r1 : iE ds m' ≤ iE ds q := mO (by omega)
                    have r2 : iE ds (q + 1) ≤ iE ds m := mO (by omega)
                    rw[tD hdq]at r2
                    rcases T.heap hdq with⟨_, e⟩ | ⟨cY, _⟩
                    · rw[e]; exact iq (by omega) (by omega)
                    · rw[if_neg cY]at r2; omega
                rw[same m (by omega) (Nat.le_refl _)]
                exact Nat.le_refl _
            exact .of_get ((tT hc (by rw[← Og]; exact sR.1) (by rw[a2, ← Og]; exact(sR.2 m' a1).n) h3).2 rr.1 (Nat.lt_of_lt_of_le eK zU))
theorem fC.logs(T : fC call ds env [h] .start E HS LS V B){m : Nat} : ∀ p, m ≤ p → p ≤ ds.length → (∀ x, x ∈ (LS m).rds → x ∈ (LS p).rds) ∧ (∀ x, x ∈ (LS m).pks → x ∈ (LS p).pks) := by
  intro p
  induction p with
  | zero => intro hm _; have : m = 0 := by omega
            subst this; exact⟨fun _ h => h, fun _ h => h⟩
  | succ p ih =>
    intro hm hp
    by_cases e : m = p + 1
    · subst e; exact⟨fun _ h => h, fun _ h => h⟩
    obtain⟨i1, i2⟩ := ih (by omega) (by omega)
    obtain⟨d, hd⟩ : ∃ d, ds[p]? = some d := ⟨ds[p]'(by omega), List.getElem?_eq_getElem (by omega)⟩
    obtain⟨⟨hw, g, gs, hg, hf, ht⟩, _⟩ := T.step p d hd
    cases hb : B p with
    | false =>
      obtain⟨_, _, e⟩ := hf hb
      rw[e]; exact⟨i1, i2⟩
    | true =>
      rcases ht hb with⟨_, _, _, _, e⟩ | ⟨_, e, _⟩ | ⟨_, e, _⟩ | ⟨_, ids, h1, _, _, _, _, e⟩
      · rw[e]
        unfold cK.see
        split
        · exact⟨i1, i2⟩
        · unfold cK.read
          split
          · exact⟨fun x hx => List.mem_cons_of_mem _ (i1 x hx), i2⟩
          · exact⟨i1, i2⟩
      · rw[e]; exact⟨i1, i2⟩
      · rw[e]; exact⟨i1, i2⟩
      · rw[e]; exact⟨i1, fun x hx => List.mem_append_right _ (i2 x hx)⟩
theorem Xr(env:Env)(d:Option Nat)(v:DV):(put env d v).length=env.length:=by cases d<;>simp[put]
theorem fC.len(T:fC call ds env [h] .start E HS LS V B):∀p,p≤ds.length→(E p).length=env.length:=by
 intro p
 induction p with
 | zero=>intro _;rw[T.E0]
 | succ p ih =>
  intro hp
  obtain⟨d,hd⟩:∃ d,ds[p]?=some d:=⟨ds[p]'(by omega),List.getElem?_eq_getElem (by omega)⟩
  rw[(T.step p d hd).2,Xr,ih (by omega)]
theorem fC.old(T:fC call ds env [h] .start E HS LS V B){t:Nat}:∀q,q≤ds.length→(∀(p:Nat) (d:aJ),p<q→ds[p]?=some d→d.dst≠some t)→(E q)[t]?=env[t]?:=by
 intro q
 induction q with
 | zero=>intro _ _;rw[T.E0]
 | succ q ih =>
  intro hq yO
  obtain⟨d,hd⟩:∃ d,ds[q]?=some d:=⟨ds[q]'(by omega),List.getElem?_eq_getElem (by omega)⟩
  rw[(T.step q d hd).2]
  have h1:=ih (by omega) (fun p d hp=>yO p d (by omega))
  have h2:=yO q d (by omega) hd
  unfold put
  split
  ·rename_i t' ht'
   rw[List.getElem?_set,if_neg (fun e:t'=t=>h2 (by rw[ht',e])),h1]
  ·exact h1
theorem fC.new(T:fC call ds env [h] .start E HS LS V B){t p:Nat}{d:aJ}(hd:ds[p]?=some d)(ht:d.dst=some t)(aY:t<env.length):∀q,p<q→q≤ds.length →
  (∀(p':Nat) (d':aJ),p<p'→p'<q→ds[p']?=some d'→d'.dst≠some t)→(E q)[t]?=some (V p):=by
 intro q
 induction q with
 | zero=>intro h0;omega
 | succ q ih =>
  intro F7 hq yO
  obtain⟨d',nJ⟩:∃ d,ds[q]?=some d:=⟨ds[q]'(by omega),List.getElem?_eq_getElem (by omega)⟩
  rw[(T.step q d' nJ).2]
  have hl:=T.len q (by omega)
  by_cases e:p=q
  ·subst e
   have:d'=d:=Option.some.inj (nJ.symm.trans hd)
   subst this
   simp only[put,ht,List.getElem?_set]
   rw[if_pos trivial,if_pos (by omega)]
  ·have h1:=ih (by omega) (by omega) (fun p' d' a1 a2=>yO p' d' a1 (by omega))
   have h2:=yO q d' (by omega) (by omega) nJ
   unfold put
   split
   ·rename_i t' ht'
    rw[List.getElem?_set,if_neg (fun e:t'=t=>h2 (by rw[ht',e])),h1]
   ·exact h1
end
end Go.Dm
/-
Part 22 of "Dm": a region with an open order: what holds at each of its states.
-/
namespace Go.Dm
def Ctx.cut(c:Ctx)(N:Nat):Ctx:={c with ρ:=fun id=>if id<N then c.ρ id else none}
theorem gR{c:Ctx}{N id:Nat}(h:id<N):(c.cut N).ρ id=c.ρ id:=by simp[Ctx.cut,h]
theorem pW{c:Ctx}{N id:Nat}{p:Nat×Nat}(h:(c.cut N).ρ id=some p):id<N∧c.ρ id=some p:=by
 simp only[Ctx.cut]at h
 split at h
 ·exact⟨by assumption,h⟩
 ·cases h
theorem OO{c:Ctx}{ρ ρ':Nat→Option (Nat×Nat)}(h:∀id p,ρ id=some p→ρ' id=some p):bR {c with ρ:=ρ} {c with ρ:=ρ'} :=
 ⟨h,Nat.le_refl _,fun _ _ _=>rfl,fun _ h=>.inl h,fun _ _ _ h=>h,fun _ h=>h,fun _ _ h=>⟨h,rfl⟩,.refl _,rfl⟩
theorem oG{c:Ctx}{N M:Nat}(h:N≤M):bR (c.cut N) (c.cut M) :=
 OO fun id p hp=>by
  split at hp
  ·rename_i aY;rw[if_pos (by omega)];exact hp
  ·cases hp
theorem FP{h:aA}{c:Ctx}(hR:Rel h c):c.cut h.n=c:=by
 have:(fun id=>if id<h.n then c.ρ id else none)=c.ρ:=by
  funext id
  split
  ·rfl
  ·rename_i hn
   cases hr:c.ρ id with
   | none=>rfl
   | some p=>exact absurd (hR.dom id (by rw[hr];simp)) hn
 cases c
 simp only[Ctx.cut]at *
 rw[this]
theorem Rel.setLim{h:aA}{c:Ctx}(hR:Rel h c){l:Nat}(hl:l≤h.n):Rel {h with lim:=l} c:=⟨hR.len,hl,hR.dom,hR.obj,hR.inj,hR.own,hR.notX,hR.old,hR.pend,hR.glob⟩
theorem Kr{h:aA}{c:Ctx}{b:Nat}:iS (h.push .dead) (c.cut (h.n+1)).ρ b↔iS h (c.cut h.n).ρ b:=by
 constructor
 ·rintro⟨id,o,x,hg,ha,hr⟩
  rw[cD]at hg
  split at hg
  ·cases hg;simp[gF]at ha
  ·have:=dH hg
   exact⟨id,o,x,hg,ha,by rw[gR this];rw[gR (by omega)]at hr;exact hr⟩
 ·rintro⟨id,o,x,hg,ha,hr⟩
  have:=dH hg
  exact⟨id,o,x,by rw[bP this];exact hg,ha,by rw[gR (by omega)];rw[gR this]at hr;exact hr⟩
theorem Rel.pad1{h:aA}{c:Ctx}(hR:Rel h (c.cut h.n)):Rel (h.push .dead) (c.cut (h.n+1)):=by
 refine⟨sE hR.len,Nat.le_succ_of_le hR.lim,fun id eK=>?_,fun id o hg=>?_,fun i j oi oj b x y hi hj pT Le nX wW=>?_,fun b=>?_,hR.notX,hR.old,fun b hb=>⟨(hR.pend b hb).1,fun ho=>(hR.pend b hb).2 (Kr.1 ho)⟩,hR.glob.mono (oG (by omega))⟩
 ·cases hr:(c.cut (h.n+1)).ρ id with
  | none=>exact absurd hr eK
  | some p=>exact(pW hr).1
 ·rw[cD]at hg
  split at hg
  ·cases hg;trivial
  ·exact(hR.obj id o hg).mono (oG (by omega)) (fun _ _ _ _=>rfl)
 ·have old:∀i oi,(h.push .dead).get i=some oi→gF oi=true→h.get i=some oi:=by
   intro i oi hi pT
   rw[cD]at hi
   split at hi
   ·cases hi;simp[gF]at pT
   ·exact hi
  have gi:=old i oi hi pT
  have gj:=old j oj hj Le
  have li:=dH gi
  have lj:=dH gj
  rw[gR (by omega)]at nX wW
  exact hR.inj i j oi oj b x y gi gj pT Le (by rw[gR li];exact nX) (by rw[gR lj];exact wW)
 ·have:=hR.own b
  show c.O b↔_∨c.E b
  rw[Kr]
  exact this
theorem Rel.pad{h:aA}{c:Ctx}(hR:Rel h (c.cut h.n)):∀j,∃ h2:aA,Rel h2 (c.cut (h.n+j))∧h2.n=h.n+j∧∀id,id<h.n→h2.get id=h.get id:=by
 intro j
 induction j with
 | zero=>exact⟨h,hR,rfl,fun _ _=>rfl⟩
 | succ j ih =>
  obtain⟨h2,k1,k2,k3⟩:=ih
  refine⟨h2.push .dead,?_,by rw[Bg,k2];omega,fun id eK=>by rw[bP (by omega)];exact k3 id eK⟩
  have:=Rel.pad1 (c:=c) (h:=h2) (by rw[k2];exact k1)
  rw[k2]at this
  exact this
def Ii(c:Ctx)(b ety sz:Nat)(xs:List DV):Prop:=∃ cur,0<sz∧cur.size=xs.length*sz∧mF cur∧gU c xs sz cur 0∧c.w.heap[b]?=some (.cells cur ety (0,0))
theorem Ii.mono{c c':Ctx}{b ety sz:Nat}{xs:List DV}(h:Ii c b ety sz xs)(cM:bR c c')(hb:c'.w.heap[b]?=c.w.heap[b]?):Ii c' b ety sz xs:=by
 obtain⟨cur,h1,h2,h3,h4,h5⟩:=h
 exact⟨cur,h1,h2,h3,fun i hi=>⟨(h4 i hi).1,fun j hj=>by
  obtain⟨v,a1,a2,a3⟩:=(h4 i hi).2 j hj
  exact⟨v,a1,a2,a3.mono cM⟩⟩,hb.trans h5⟩
theorem Pe{P:Program}{o:Oper}{ety sz:Nat}{z:DV}(hc:gJ P o=some (.alloc ety sz z)):o.op=.alloc ety∧∃ bytes,dY P ety=some (sz,bytes,z):=by
 unfold gJ at hc
 split at hc
 case h_4 e ho =>
  split at hc
  ·rename_i dT b z' he;cases hc;exact⟨ho,b,he⟩
  ·cases hc
 all_goals ((repeat' split at hc)<;>first|(cases hc;done)|(simp at hc;done))
theorem Ak{P:Program}{o:Oper}{e sz len:Nat}{z:DV}{ps:List (Nat×Opd)}(hc:gJ P o=some (.buildSlice e sz z len ps)):∃ t parts bytes,o.op=.buildSlice t len parts∧P.underlying t=some (.slice e)∧dY P e=some (sz,bytes,z) ∧
  parts.toList.mapM (fun(x:Nat×Operand)=>(opd x.2).map fun y=>(x.1,y))=some ps∧len*sz≤16777216:=by
 unfold gJ at hc
 split at hc
 case h_7 t n parts ho =>
  split at hc
  ·rename_i e' ht
   split at hc
   ·rename_i dT b z' he
    split at hc
    ·rename_i ps' T2
     split at hc
     ·rename_i hsm
      cases hc
      exact⟨t,parts,b,ho,ht,he,T2,hsm⟩
     ·cases hc
    ·cases hc
   ·cases hc
  ·cases hc
 all_goals ((repeat' split at hc)<;>first|(cases hc;done)|(simp at hc;done))
theorem DU{P:Program}{o:Oper}{d:DOp}(hc:gJ P o=some d)(ha:d.cls=.alloc){c:Ctx}{env:Env}{a:Act}(hE:cI c env a){ety sz:Nat}{xs:List DV}(hm:Dc env d=some (ety,sz,xs)) :
  ∃ w' cur val,(execOp a.eval o).run P c.w=.ok (.value val) w'∧w'.heap.size=c.w.heap.size+1∧(∀k,k<c.w.heap.size→w'.heap[k]?=c.w.heap[k]?)∧mE c.w w' ∧
   w'.heap[c.w.heap.size]?=some (.cells cur ety (0,0))∧0<sz∧cur.size=xs.length*sz∧mF cur∧gU c xs sz cur 0 ∧
   ∀(c':Ctx) (id:Nat),c'.ρ id=some (c.w.heap.size,0)→c'.w.shape? c.w.heap.size=some (ety,xs.length*sz)→VR c' (E7 id d) val:=by
 rcases Hu ha with⟨nT,dT,z,rfl⟩|⟨nT,dT,z,len,ps,rfl⟩
 ·simp only[Dc,Option.some.injEq,Prod.mk.injEq]at hm
  obtain⟨rfl,rfl,rfl⟩:=hm
  obtain⟨ho,bytes,he⟩:=Pe hc
  obtain⟨i,z0,hi,e1,e2,hz,yM,eI,dD⟩:=fA he
  have nI:=yD (c:=c) dD (eM yM c)
  have hcells:=(dQ (c:=c) dD (eM yM c)).2.1
  refine⟨{c.w with heap:=c.w.heap.push (.cells z0.cells nT)},z0.cells,.pointer (some ⟨c.w.heap.size,0,none⟩),?_,by simp,fun k hk=>by rw[Array.getElem?_push];simp;omega,.push (ob:=.cells z0.cells nT) rfl rfl rfl rfl,by simp,eI,by simp[hcells],qN (m:=1) nI eI (by omega) rfl,nI,fun c' id h1 _=>?_⟩
  ·simp[execOp,ho,Instr.alloc,zeroValue,typeInfo,hi,hz,newVar,newRow]
  ·have:=VR.ptr (c:=c') (id:=id) (sz:=dT) (idx:=0) (off:=0) (b:=c.w.heap.size) (base:=0) h1
   simpa[E7]using this
 ·simp only[Dc,Option.map_eq_some_iff]at hm
  obtain⟨xs',GI,hm⟩:=hm
  simp only[Prod.mk.injEq]at hm
  obtain⟨rfl,rfl,rfl⟩:=hm
  obtain⟨t,parts,bytes,ho,ht,he,hp,hsmall⟩:=Ak hc
  obtain⟨w',cur,r1,r2,r3,r4,r5,r6,r7⟩:=Km (P:=P) (o:=o) (c:=c) (env:=env) (a:=a) ho ht he hp hsmall hE GI
  refine⟨w',cur,.slice (some ⟨c.w.heap.size,0,none⟩) len len,r1,by rw[r2];simp,fun k hk=>by rw[r2,Array.getElem?_push];simp;omega,.push (ob:=.cells cur nT) r2 rfl r3.1 r3.2.1 r3.2.2.1 r3.2.2.2,by rw[r2];simp,r4,r5,r6,r7,fun c' id h1 h2=>?_⟩
  have cB:xs'.length=len:=by have:=sK _ GI;rw[List.length_replicate]at this;exact this
  exact .sl h1 h2 (by rw[cB];simp) (Nat.le_refl _) (.inl (by simp))
def Li(listed:Array Bool)(i:Nat):Prop:=listed.getD i false=true
section
variable (ops:List Oper) (cA:List (Nat×aJ)) (EN:Nat→Env) (HS:Nat→List aA) (V:Nat→DV) (B:Nat→Bool) (c:Ctx) (env:Env)
structure qG(listed:Array Bool)(a:Act)(ĉ:Ctx)(m0:Nat):Prop where
 size:listed.size=ops.length
 closed:∀j o,ops[j]?=some o→Li listed j→∀e,e∈o.after.toList→Region.binds .any e=true→Li listed e.on
 asize:a.tmps.size=env.length
 defers:a.defers=[]
 vals:∀(p:Nat) (x:Nat×aJ) (t:Nat),cA[p]?=some x→Li listed x.1→x.2.dst=some t→t<env.length→VR (ĉ.cut (max (aR (HS (p+1))).n m0)) (V p) (a.tmps.getD t Go.undef)
 olds:∀t,(∀(p:Nat) (x:Nat×aJ),cA[p]?=some x→Li listed x.1→x.2.dst≠some t)→VR (ĉ.cut (max (aR (HS 0)).n m0)) ((env[t]?).getD .unk) (a.tmps.getD t Go.undef)
structure lG(listed:Array Bool)(k:Nat)(ĉ:Ctx):Prop where
 k_le:k≤cA.length
 front:∀(p:Nat) (x:Nat×aJ),p<k→cA[p]?=some x→x.2.kind≠.read→Li listed x.1
 rel:Rel (aR (HS k)) (ĉ.cut (aR (HS k)).n)
 le:bR c (ĉ.cut (aR (HS k)).n)
 X:ĉ.X=c.X
 E:∀b,ĉ.E b→c.E b∨∃ id,(aR (HS k)).n≤id∧ĉ.ρ id=some (b,0)
 cE:∀b,c.E b→ĉ.E b
 dom:∀id b x,(aR (HS k)).n≤id→ĉ.ρ id=some (b,x)→ĉ.E b∧¬c.E b∧∃ (p:Nat) (y:Nat×aJ),k≤p∧cA[p]?=some y∧Li listed y.1∧y.2.kind≠.read∧B p=true∧id=(aR (HS p)).n
 pend:∀(p:Nat) (x:Nat×aJ),k≤p→cA[p]?=some x→x.2.kind≠.read→Li listed x.1→x.2.op.cls=.alloc ∧
  (B p=true→∃ ety sz xs b,Dc (EN p) x.2.op=some (ety,sz,xs)∧ĉ.ρ (aR (HS p)).n=some (b,0)∧Ii (ĉ.cut (aR (HS p)).n) b ety sz xs)
 inj:∀id id' b,(aR (HS k)).n≤id→(aR (HS k)).n≤id'→ĉ.ρ id=some (b,0)→ĉ.ρ id'=some (b,0)→id=id'
end
section
variable {P:Program} {call:iD} {ops:List Oper} {cA:List (Nat×aJ)} {bs:List Nat} {E:Nat→Env} {HS:Nat→List aA} {LS:Nat→cK} {V:Nat→DV} {B:Nat→Bool} {c ĉ:Ctx} {env:Env} {h:aA}
 {listed:Array Bool} {a:Act} {k m0:Nat}
theorem SA{i:Nat}(hl:Li listed i):i<listed.size:=by
 rcases Nat.lt_or_ge i listed.size with h|h
 ·exact h
 ·simp[Li,h]at hl
theorem iP{i j:Nat}(hj:j<listed.size):Li (listed.setIfInBounds j true) i↔Li listed i∨i=j:=by
 unfold Li
 by_cases e:i=j
 ·subst e;simp[hj]
 ·have:(listed.setIfInBounds j true).getD i false=listed.getD i false:=getD_set_ne false (Ne.symm e)
  rw[this];simp[e]
theorem qJ(F:Fit P ops cA bs)(I:qG ops cA HS V env listed a ĉ m0):∀j,Li listed j→∀i,i<ops.length→mJ bs j i=true→Li listed i:=by
 intro j
 induction j using Nat.strongRecOn with
 | _ j ih =>
  intro hj i hi hb
  have aY:j<ops.length:=by rw[←I.size];exact SA hj
  obtain⟨e,h1,h2,h3⟩:=F.clos j ops[j] i (List.getElem?_eq_getElem aY) hi hb
  have h4:=I.closed j ops[j] (List.getElem?_eq_getElem aY) hj e h1 h2
  rcases h3 with h3|h3
  ·rw[←h3];exact h4
  ·exact ih e.on (F.edge j ops[j] e (List.getElem?_eq_getElem aY) h1 h2).2 h4 i hi h3
structure Up(ops:List Oper)(cA:List (Nat×aJ))(listed:Array Bool)(q:Nat)(x:Nat×aJ)(o:Oper):Prop where
 hx:cA[q]?=some x
 ho:ops[x.1]?=some o
 not:¬Li listed x.1
 all:∀e,e∈o.after.toList→Region.binds .any e=true→Li listed e.on
theorem xQ(F:Fit P ops cA bs)(I:qG ops cA HS V env listed a ĉ m0){q:Nat}{x:Nat×aJ}{o:Oper}(U:Up ops cA listed q x o){i:Nat}(hi:i<ops.length)(hb:mJ bs x.1 i=true):Li listed i:=by
 obtain⟨e,h1,h2,h3⟩:=F.clos x.1 o i U.ho hi hb
 rcases h3 with h3|h3
 ·rw[←h3];exact U.all e h1 h2
 ·exact qJ F I e.on (U.all e h1 h2) i hi h3
theorem kI(F:Fit P ops cA bs){p:Nat}{x:Nat×aJ}(hx:cA[p]?=some x):x.1<ops.length:=by
 obtain⟨o,_,_,_,ho,_⟩:=F.comp p x hx
 exact(List.getElem?_eq_some_iff.1 ho).1
theorem Ab(F:Fit P ops cA bs){p q:Nat}{x y:Nat×aJ}(hx:cA[p]?=some x)(hy:cA[q]?=some y)(he:x.1=y.1):p=q:=by
 rcases Nat.lt_trichotomy p q with h|h|h
 ·exact absurd he (F.pair p q x y h hx hy).1
 ·exact h
 ·exact absurd he.symm (F.pair q p y x h hy hx).1
theorem Dz(F:Fit P ops cA bs){p q:Nat}{x y:Nat×aJ}(F7:p<q)(hx:cA[p]?=some x)(hy:cA[q]?=some y){t:Nat}(ht:x.2.dst=some t):y.2.dst≠some t:=by
 have h:=(F.pair p q x y F7 hx hy).2.2
 simp only[uY,Bool.and_eq_true]at h
 have h2:=h.1.1.1.2
 intro e
 simp[ht,e]at h2
theorem Hd(F:Fit P ops cA bs){p q:Nat}{x y:Nat×aJ}(F7:p<q)(hx:cA[p]?=some x)(hy:cA[q]?=some y)(hb:mJ bs y.1 x.1=false):Tp x.2 y.2=true:=by
 have h:=(F.pair p q x y F7 hx hy).2.2
 simp only[uY,Bool.and_eq_true,hb,Bool.false_or]at h
 exact h.1.1.1.1
theorem Ha{x y:aJ}(h:Tp x y=true):I6 x y=false:=by
 simp only[Tp,Bool.and_eq_true,Bool.not_eq_true']at h
 exact h.1
theorem pB{p:Nat}{x:Nat×aJ}(hx:cA[p]?=some x):(cA.map (·.2))[p]?=some x.2:=by simp[hx]
theorem qU{p:Nat}{d:aJ}(hd:(cA.map (·.2))[p]?=some d):∃ x,cA[p]?=some x∧x.2=d:=by
 simp only[List.getElem?_map,Option.map_eq_some_iff]at hd
 exact hd
theorem HC(F:Fit P ops cA bs)(T:fC call (cA.map (·.2)) env [h] .start E HS LS V B)(hc:dL call)(hl:h.lim≤h.n)(I:qG ops cA HS V env listed a ĉ m0){q:Nat}{x:Nat×aJ}{o:Oper}(U:Up ops cA listed q x o)
  {t:Nat} (ht:t∈x.2.reads):VR (ĉ.cut (max (aR (HS q)).n m0)) (((E q)[t]?).getD .unk) (a.tmps.getD t Go.undef):=by
 have hq:q<cA.length:=(List.getElem?_eq_some_iff.1 U.hx).1
 have qS:q≤(cA.map (·.2)).length:=by simp;omega
 by_cases hw:∃ (p:Nat) (y:Nat×aJ),p<q∧cA[p]?=some y∧y.2.dst=some t
 ·obtain⟨p,y,hp,hy,hd⟩:=hw
  have hb:mJ bs x.1 y.1=true:=by
   cases hb:mJ bs x.1 y.1 with
   | true=>rfl
   | false =>
    have h1:=Ha (Hd F hp hy U.hx hb)
    simp only[I6,hd,Bool.or_eq_false_iff]at h1
    have h2:=h1.1.1
    rw[List.contains_eq_mem]at h2
    simp[ht]at h2
  have hly:=xQ F I U (kI F hy) hb
  by_cases aY:t<env.length
  ·rw[T.new (pB hy) hd aY q hp qS (fun p' d' a1 a2 nJ=>by
    obtain⟨y',e1,e2⟩:=qU nJ
    subst e2
    exact Dz F a1 hy e1 hd)]
   have hn:=(T.keeps hc hl (by omega:p+1≤q) qS).n
   exact(I.vals p y t hy hly hd aY).mono (oG (by omega))
  ·rw[List.getElem?_eq_none (by rw[T.len q qS];omega)]
   exact .unk _
 ·rw[T.old q qS (fun p d hp hd e=>by
   obtain⟨y,e1,e2⟩:=qU hd
   subst e2
   exact hw ⟨p,y,hp,e1,e⟩)]
  have hn:=(T.keeps hc hl (Nat.zero_le q) qS).n
  refine(I.olds t fun p y hy hly hd=>?_).mono (oG (by omega))
  rcases Nat.lt_trichotomy p q with hp|hp|hp
  ·exact hw ⟨p,y,hp,hy,hd⟩
  ·subst hp
   have:y=x:=Option.some.inj (hy.symm.trans U.hx)
   subst this
   exact U.not hly
  ·cases hb:mJ bs y.1 x.1 with
   | true=>exact U.not (qJ F I y.1 hly x.1 (kI F U.hx) hb)
   | false =>
    have h1:=Ha (Hd F hp U.hx hy hb)
    simp only[I6,hd,Bool.or_eq_false_iff]at h1
    have h2:=h1.2
    rw[List.contains_eq_mem]at h2
    simp[ht]at h2
def qQ(env:Env)(ts:List Nat):Env:=(List.range env.length).map fun t=>if t∈ts then(env[t]?).getD .unk else .unk
theorem lI{env:Env}{ts:List Nat}:kR ts env (qQ env ts):=by
 intro t ht
 by_cases aY:t<env.length
 ·simp[qQ,aY,ht]
 ·simp[qQ,aY]
theorem Su(F:Fit P ops cA bs)(T:fC call (cA.map (·.2)) env [h] .start E HS LS V B)(hc:dL call)(hl:h.lim≤h.n)(I:qG ops cA HS V env listed a ĉ m0){q:Nat}{x:Nat×aJ}{o:Oper}(U:Up ops cA listed q x o) :
  cI (ĉ.cut (max (aR (HS q)).n m0)) (qQ (E q) x.2.reads) a:=by
 have hq:q<cA.length:=(List.getElem?_eq_some_iff.1 U.hx).1
 have qS:q≤(cA.map (·.2)).length:=by simp;omega
 refine⟨by simp[qQ,T.len q qS,I.asize],I.defers,fun t ht=>?_⟩
 simp only[qQ,List.length_map,List.length_range]at ht
 simp only[qQ,List.getElem_map,List.getElem_range]
 split
 ·rename_i hm;exact HC F T hc hl I U hm
 ·exact .unk _
theorem Ps{g:Option (Nat×Bool)}{env:Env}{ts:List Nat}(hg:∀t w,g=some (t,w)→t∈ts):gN (qQ env ts) g=gN env g:=by
 cases g with
 | none=>rfl
 | some p =>
  obtain⟨t,w⟩:=p
  have ht:=hg t w rfl
  have:(qQ env ts)[t]?=env[t]?:=by
   by_cases aY:t<env.length
   ·simp[qQ,aY,ht]
   ·simp[qQ,aY]
  simp only[gN,this]
end
end Go.Dm
/-
Part 23 of "Dm": a region with an open order: how its state moves on.
-/
namespace Go.Dm
section
variable {P:Program} {call:iD} {ops:List Oper} {cA:List (Nat×aJ)} {bs:List Nat} {E:Nat→Env} {HS:Nat→List aA} {LS:Nat→cK} {V:Nat→DV} {B:Nat→Bool} {c ĉ ĉ1:Ctx} {env:Env} {h:aA}
 {listed:Array Bool} {a:Act} {k m0:Nat}
theorem Tn(a:Act)(dst:Option Nat)(v:Value)(t:Nat):(a.put dst v).tmps.getD t Go.undef=if dst=some t∧t<a.tmps.size then v else a.tmps.getD t Go.undef:=by
 cases dst with
 | none=>simp[Act.put]
 | some d =>
  simp only[Act.put,Array.getD_eq_getD_getElem?,Array.getElem?_setIfInBounds]
  by_cases e:d=t
  ·subst e
   by_cases aY:d<a.tmps.size
   ·simp[aY]
   ·simp[aY]
  ·simp[e]
theorem qG.mark(F:Fit P ops cA bs)(I:qG ops cA HS V env listed a ĉ m0)(cM:∀M,bR (ĉ.cut M) (ĉ1.cut M)){m1:Nat}(hm:m0≤m1){q:Nat}{x:Nat×aJ}{o:Oper}(U:Up ops cA listed q x o){v:Value}
  (hv:VR (ĉ1.cut (max (aR (HS (q+1))).n m1)) (V q) v):qG ops cA HS V env (listed.setIfInBounds x.1 true) (a.put x.2.dst v) ĉ1 m1:=by
 have aY:x.1<listed.size:=by rw[I.size];exact kI F U.hx
 refine⟨by simp[I.size],fun j o' Tf hj e he hb=>?_,?_,?_,fun p y t hy hL hd ht=>?_,fun t yO=>?_⟩
 ·rw[iP aY]at hj ⊢
  rcases hj with hj|hj
  ·exact .inl (I.closed j o' Tf hj e he hb)
  ·subst hj
   have:o'=o:=Option.some.inj (Tf.symm.trans U.ho)
   subst this
   exact .inl (U.all e he hb)
 ·cases x.2.dst<;>simp[Act.put,I.asize]
 ·cases x.2.dst<;>simp[Act.put,I.defers]
 ·rw[Tn]
  by_cases F7:p=q
  ·subst F7
   have:y=x:=Option.some.inj (hy.symm.trans U.hx)
   subst this
   rw[if_pos ⟨hd,by rw[I.asize];exact ht⟩]
   exact hv
  ·have cY:x.2.dst≠some t:=by
    rcases Nat.lt_or_gt_of_ne F7 with h1|h1
    ·exact Dz F h1 hy U.hx hd
    ·exact fun e=>Dz F h1 U.hx hy e hd
   rw[if_neg (fun e=>cY e.1)]
   rw[iP aY]at hL
   have hL:Li listed y.1:=hL.resolve_right fun e=>F7 (Ab F hy U.hx e)
   exact((I.vals p y t hy hL hd ht).mono (cM _)).mono (oG (by omega))
 ·rw[Tn,if_neg (fun e=>yO q x U.hx ((iP aY).2 (.inr rfl)) e.1)]
  exact((I.olds t fun p y hy hL=>yO p y hy ((iP aY).2 (.inl hL))).mono (cM _)).mono (oG (by omega))
theorem qG.mono(I:qG ops cA HS V env listed a ĉ m0)(cM:∀M,bR (ĉ.cut M) (ĉ1.cut M)){m1:Nat}(hm:m0≤m1):qG ops cA HS V env listed a ĉ1 m1 :=
 ⟨I.size,I.closed,I.asize,I.defers,fun p x t h1 h2 h3 h4=>((I.vals p x t h1 h2 h3 h4).mono (cM _)).mono (oG (by omega)),fun t h1=>((I.olds t h1).mono (cM _)).mono (oG (by omega))⟩
theorem lG.same(F:Fit P ops cA bs)(I:qG ops cA HS V env listed a ĉ m0)(M:lG cA E HS B c listed k ĉ){q:Nat}{x:Nat×aJ}{o:Oper}(U:Up ops cA listed q x o)(hk:x.2.kind=.read) :
  lG cA E HS B c (listed.setIfInBounds x.1 true) k ĉ:=by
 have aY:x.1<listed.size:=by rw[I.size];exact kI F U.hx
 refine⟨M.k_le,fun p y hp hy Dv=>(iP aY).2 (.inl (M.front p y hp hy Dv)),M.rel,M.le,M.X,M.E,M.cE,fun id b z eK hr=>?_,fun p y hp hy Dv hL=>?_,M.inj⟩
 ·obtain⟨h1,h2,p,y,h3,h4,h5,h6⟩:=M.dom id b z eK hr
  exact⟨h1,h2,p,y,h3,h4,(iP aY).2 (.inl h5),h6⟩
 ·rcases(iP aY).1 hL with h1|h1
  ·exact M.pend p y hp hy Dv h1
  ·have:=Ab F hy U.hx h1
   subst this
   have:y=x:=Option.some.inj (hy.symm.trans U.hx)
   subst this
   exact absurd hk Dv
theorem lG.idle(F:Fit P ops cA bs)(I:qG ops cA HS V env listed a ĉ m0)(M:lG cA E HS B c listed k ĉ){q:Nat}{x:Nat×aJ}{o:Oper}(U:Up ops cA listed q x o)(ha:x.2.op.cls=.alloc)(hb:B q=false) :
  lG cA E HS B c (listed.setIfInBounds x.1 true) k ĉ:=by
 have aY:x.1<listed.size:=by rw[I.size];exact kI F U.hx
 refine⟨M.k_le,fun p y hp hy Dv=>(iP aY).2 (.inl (M.front p y hp hy Dv)),M.rel,M.le,M.X,M.E,M.cE,fun id b z eK hr=>?_,fun p y hp hy Dv hL=>?_,M.inj⟩
 ·obtain⟨h1,h2,p,y,h3,h4,h5,h6⟩:=M.dom id b z eK hr
  exact⟨h1,h2,p,y,h3,h4,(iP aY).2 (.inl h5),h6⟩
 ·rcases(iP aY).1 hL with h1|h1
  ·exact M.pend p y hp hy Dv h1
  ·have:=Ab F hy U.hx h1
   subst this
   have:y=x:=Option.some.inj (hy.symm.trans U.hx)
   subst this
   exact⟨ha,fun e=>by rw[hb]at e;cases e⟩
theorem lG.skip(M:lG cA E HS B c listed k ĉ)(hk:k<cA.length)(hh:aR (HS (k+1))=aR (HS k))(hf:∀x:Nat×aJ,cA[k]?=some x→x.2.kind≠.read→Li listed x.1∧B k=false) :
  lG cA E HS B c listed (k+1) ĉ:=by
 refine⟨hk,fun p y hp hy Dv=>?_,by rw[hh];exact M.rel,by rw[hh];exact M.le,M.X,by rw[hh];exact M.E,M.cE,fun id b z eK hr=>?_,fun p y hp=>M.pend p y (by omega),by rw[hh];exact M.inj⟩
 ·by_cases e:p=k
  ·subst e;exact(hf y hy Dv).1
  ·exact M.front p y (by omega) hy Dv
 ·rw[hh]at eK
  obtain⟨h1,h2,p,y,h3,h4,h5,h6,h7,h8⟩:=M.dom id b z eK hr
  refine⟨h1,h2,p,y,?_,h4,h5,h6,h7,h8⟩
  by_cases e:p=k
  ·subst e;rw[(hf y h4 h6).2]at h7;cases h7
  ·omega
theorem Rel.early{h:aA}{c:Ctx}(hR:Rel h c){w':World}(kO:w'.heap.size=c.w.heap.size+1)(gG:∀k,k<c.w.heap.size→w'.heap[k]?=c.w.heap[k]?)(hq:mE c.w w') :
  Rel h ⟨w',c.ρ,fun b=>c.O b∨b=c.w.heap.size,c.X,fun b=>c.E b∨b=c.w.heap.size,c.τ⟩∧bR c ⟨w',c.ρ,fun b=>c.O b∨b=c.w.heap.size,c.X,fun b=>c.E b∨b=c.w.heap.size,c.τ⟩:=by
 have cM:bR c ⟨w',c.ρ,fun b=>c.O b∨b=c.w.heap.size,c.X,fun b=>c.E b∨b=c.w.heap.size,c.τ⟩ :=
  ⟨fun _ _ h=>h,by simp only[kO];omega,fun b hb _=>gG b hb,fun b hb=>hb.imp id (fun e=>by omega),fun b e n hs=>by
   have:=Ez hs
   simp only[World.shape?]at hs ⊢
   rw[gG b this];exact hs,fun _ h=>h,fun b hb hE=>⟨hE.resolve_right (by omega),gG b hb⟩,hq,rfl⟩
 have fZ:∀b,iS h c.ρ b→b<c.w.heap.size:=fun b ⟨id,o,x,hg,ha,hr⟩=>hR.block_lt hg ha hr
 refine⟨⟨hR.len,hR.lim,hR.dom,fun id o hg=>(hR.obj id o hg).mono cM (fun ha b x hr=>gG b (hR.block_lt hg ha hr)),hR.inj,fun b=>?_,fun b hb hx=>?_,fun b hb=>?_,fun b hb=>?_,hR.glob.mono cM⟩,cM⟩
 ·show c.O b∨_↔iS h c.ρ b∨(c.E b∨_)
  rw[hR.own b,or_assoc]
 ·rcases hb with hb|hb
  ·exact hR.notX b hb hx
  ·have:=hR.old b hx;omega
 ·have:=hR.old b hb
  show b<w'.heap.size
  omega
 ·rcases hb with hb|hb
  ·exact⟨by show b<w'.heap.size;have:=(hR.pend b hb).1;omega,(hR.pend b hb).2⟩
  ·exact⟨by show b<w'.heap.size;omega,fun ho=>by have:=fZ b ho;omega⟩
theorem lG.early(F:Fit P ops cA bs)(T:fC call (cA.map (·.2)) env [h] .start E HS LS V B)(hc:dL call)(hl:h.lim≤h.n)(I:qG ops cA HS V env listed a ĉ m0)(M:lG cA E HS B c listed k ĉ)
  {q:Nat} {x:Nat×aJ} {o:Oper} (U:Up ops cA listed q x o) (hkq:k≤q) (Gx:x.2.op.cls=.alloc) {ety sz:Nat} {xs:List DV} (hmd:Dc (E q) x.2.op=some (ety,sz,xs)) (hb:B q=true)
  {w':World} (kO:w'.heap.size=ĉ.w.heap.size+1) (gG:∀k,k<ĉ.w.heap.size→w'.heap[k]?=ĉ.w.heap[k]?) (hqt:mE ĉ.w w') {cur:Array Value} (Df:w'.heap[ĉ.w.heap.size]?=some (.cells cur ety (0,0))) (KD:0<sz) (Dy:cur.size=xs.length*sz) (zT:mF cur) (nI:gU (ĉ.cut (aR (HS q)).n) xs sz cur 0) :
  ∃ ĉ1:Ctx,ĉ1.w=w'∧(∀M,bR (ĉ.cut M) (ĉ1.cut M))∧lG cA E HS B c (listed.setIfInBounds x.1 true) k ĉ1∧ĉ1.ρ (aR (HS q)).n=some (ĉ.w.heap.size,0):=by
 have aY:x.1<listed.size:=by rw[I.size];exact kI F U.hx
 have hq:q<cA.length:=(List.getElem?_eq_some_iff.1 U.hx).1
 have qS:q<(cA.map (·.2)).length:=by simp;omega
 have hnk:(aR (HS k)).n≤(aR (HS q)).n:=(T.keeps hc hl hkq (by omega)).n
 have hkind:∀(p:Nat) (y:Nat×aJ),cA[p]?=some y→y.2.op.cls=.alloc→y.2.kind=.create:=fun p y hy ha=>by
  have:=F.kind p y hy
  unfold nR at this
  rw[ha]at this
  cases hk:y.2.kind<;>rw[hk]at this<;>first|rfl|cases this
 have oU:∀(p p':Nat) (y y':Nat×aJ),cA[p]?=some y→cA[p']?=some y'→y.2.op.cls=.alloc→B p=true→p<p'→(aR (HS p)).n<(aR (HS p')).n:=by
  intro p p' y y' hy OQ ha hB KG
  obtain⟨e',s',xs',_,_,h1⟩:=T.alloc (pB hy) ha (hkind p y hy ha) hB
  have EO:p'<(cA.map (·.2)).length:=by simp;exact(List.getElem?_eq_some_iff.1 OQ).1
  have h2:=(T.keeps hc hl (by omega:p+1≤p') (by omega)).n
  rw[h1,Bg]at h2
  omega
 have hnone:ĉ.ρ (aR (HS q)).n=none:=by
  cases hr:ĉ.ρ (aR (HS q)).n with
  | none=>rfl
  | some pr =>
   obtain⟨b,x0⟩:=pr
   obtain⟨_,_,p,y,h3,h4,h5,h6,h7,h8⟩:=M.dom _ b x0 hnk hr
   have ha:=(M.pend p y h3 h4 h6 h5).1
   rcases Nat.lt_trichotomy p q with hh|hh|hh
   ·have:=oU p q y x h4 U.hx ha h7 hh;omega
   ·subst hh
    have:y=x:=Option.some.inj (h4.symm.trans U.hx)
    subst this
    exact absurd h5 U.not
   ·have:=oU q p x y U.hx h4 Gx hb hh;omega
 let ĉ1:Ctx:=⟨w',fun id=>if id=(aR (HS q)).n then some (ĉ.w.heap.size,0)else ĉ.ρ id,fun b=>ĉ.O b∨b=ĉ.w.heap.size,ĉ.X,fun b=>ĉ.E b∨b=ĉ.w.heap.size,ĉ.τ⟩
 have hrho:∀id p,ĉ.ρ id=some p→ĉ1.ρ id=some p:=fun id p hp=>by
  have:id≠(aR (HS q)).n:=fun e=>by subst e;rw[hnone]at hp;cases hp
  simp only[ĉ1,if_neg this];exact hp
 obtain⟨hrel,Tg⟩:=M.rel.early (w':=w') kO gG hqt
 have Jp:ĉ1.cut (aR (HS k)).n=⟨w',(ĉ.cut (aR (HS k)).n).ρ,fun b=>ĉ.O b∨b=ĉ.w.heap.size,ĉ.X,fun b=>ĉ.E b∨b=ĉ.w.heap.size,ĉ.τ⟩:=by
  have:(fun id=>if id<(aR (HS k)).n then ĉ1.ρ id else none)=(ĉ.cut (aR (HS k)).n).ρ:=by
   funext id
   simp only[Ctx.cut]
   split
   ·have:id≠(aR (HS q)).n:=by omega
    simp only[ĉ1,if_neg this]
   ·rfl
  simp only[Ctx.cut]at this ⊢
  rw[this]
 have hleM:∀M,bR (ĉ.cut M) (ĉ1.cut M):=fun M =>
  ⟨fun id p hp=>by
   obtain⟨h1,h2⟩:=pW hp
   rw[gR h1];exact hrho id p h2,Tg.size,Tg.frame,Tg.own,Tg.shape,Tg.X,Tg.pend,Tg.quiet,Tg.tok⟩
 have hElt:∀b,ĉ.E b→b<ĉ.w.heap.size:=fun b hb=>(M.rel.pend b hb).1
 refine⟨ĉ1,rfl,hleM,⟨M.k_le,fun p y hp hy Dv=>(iP aY).2 (.inl (M.front p y hp hy Dv)),by rw[Jp];exact hrel,M.le.trans (hleM _),M.X,fun b hE=>?_,fun b hE=>.inl (M.cE b hE),fun id b z' eK hr=>?_,fun p y hp hy Dv hL=>?_,fun id id' b h1 h2 h3 h4=>?_⟩,by simp[ĉ1]⟩
 ·rcases hE with hE|hE
  ·exact(M.E b hE).imp (fun x=>x) fun⟨id,h1,h2⟩=>⟨id,h1,hrho id _ h2⟩
  ·subst hE;exact .inr ⟨(aR (HS q)).n,hnk,by simp[ĉ1]⟩
 ·by_cases e:id=(aR (HS q)).n
  ·simp only[ĉ1,if_pos e,Option.some.injEq,Prod.mk.injEq]at hr
   refine⟨.inr hr.1.symm,fun hE=>?_,q,x,hkq,U.hx,(iP aY).2 (.inr rfl),?_,hb,e⟩
   ·have:=hElt b (M.cE b hE);omega
   ·rw[hkind q x U.hx Gx];simp
  ·simp only[ĉ1,if_neg e]at hr
   obtain⟨g1,g2,p,y,g3,g4,g5,g6⟩:=M.dom id b z' eK hr
   exact⟨.inl g1,g2,p,y,g3,g4,(iP aY).2 (.inl g5),g6⟩
 ·rcases(iP aY).1 hL with h1|h1
  ·obtain⟨g1,g2⟩:=M.pend p y hp hy Dv h1
   refine⟨g1,fun hB=>?_⟩
   obtain⟨e',s',xs',b,f1,f2,f3⟩:=g2 hB
   have EO:p<(cA.map (·.2)).length:=by simp;exact(List.getElem?_eq_some_iff.1 hy).1
   have hE:=(M.dom _ b 0 (T.keeps hc hl hp (by omega)).n f2).1
   exact⟨e',s',xs',b,f1,hrho _ _ f2,f3.mono (hleM _) (gG b (hElt b hE))⟩
  ·have:=Ab F hy U.hx h1
   subst this
   have:y=x:=Option.some.inj (hy.symm.trans U.hx)
   subst this
   exact⟨Gx,fun _=>⟨ety,sz,xs,_,hmd,by simp[ĉ1],cur,KD,Dy,zT,fun i hi=>⟨(nI i hi).1,fun j hj=>by
    obtain⟨v,a1,a2,a3⟩:=(nI i hi).2 j hj
    exact⟨v,a1,a2,a3.mono (hleM _)⟩⟩,Df⟩⟩
 ·by_cases e1:id=(aR (HS q)).n<;>by_cases e2:id'=(aR (HS q)).n
  ·omega
  ·simp only[ĉ1,if_pos e1,if_neg e2,Option.some.injEq,Prod.mk.injEq]at h3 h4
   have:=hElt b (M.dom _ b 0 h2 h4).1
   omega
  ·simp only[ĉ1,if_neg e1,if_pos e2,Option.some.injEq,Prod.mk.injEq]at h3 h4
   have:=hElt b (M.dom _ b 0 h1 h3).1
   omega
  ·simp only[ĉ1,if_neg e1,if_neg e2]at h3 h4
   exact M.inj id id' b h1 h2 h3 h4
end
end Go.Dm
