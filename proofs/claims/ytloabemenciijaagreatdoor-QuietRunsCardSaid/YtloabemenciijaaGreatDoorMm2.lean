/-
Part 37 of "Dm": bytes made a text; a text appended to bytes.
-/
import Derived.Test.YtloabemenciijaaGreatDoorMm1
import Derived.Laws.BytesString
set_option linter.all false
namespace Go.Dm
section
variable {P:Program} {h h':Heap} {c:Ctx} {env:Env} {a:Act} {o:Oper} {r:DV}
theorem mapM_u8:∀{ys:List DV} {s:List UInt8},ys.mapM asU8=some s→∃ ns:List Int,ys=ns.map (DV.int .u8)∧s=ns.map fun n=>UInt8.ofNat n.toNat:=by
 intro ys
 induction ys with
 | nil=>intro s h;simp at h;subst h;exact ⟨[],rfl,rfl⟩
 | cons y ys ih =>
  intro s h
  simp only [List.mapM_cons,Option.pure_def,Option.bind_eq_bind,Option.bind_eq_some_iff]at h
  obtain ⟨b,hb,t,ht,h⟩:=h
  cases h
  obtain ⟨ns,rfl,rfl⟩:=ih ht
  unfold asU8 at hb
  split at hb
  ·rename_i n
   cases hb
   exact ⟨n::ns,rfl,rfl⟩
  ·cases hb
theorem push_bytes:∀(ns:List Int) (b:ByteArray),ns.foldl (fun r n=>r.push (UInt8.ofNat n.toNat)) b=⟨b.data++(ns.map fun n=>UInt8.ofNat n.toNat).toArray⟩:=by
 intro ns
 induction ns with
 | nil=>intro b;cases b;simp
 | cons n ns ih =>
  intro b
  rw [List.foldl_cons,ih]
  cases b
  simp [ByteArray.push]
theorem s_bytesStr {src dst e:TypeId} {x:Operand} {x':Opd} (ho:o.op=.convert src dst x) (hs1:P.underlying src=some (.slice e)) (hs2:P.underlying dst=some .string) (he:P.underlying e=some (.int .u8)) (hx:opd x=some x') (hR:Rel h c) (hE:EnvR c env a)
  (hs:stepOp h env (.bytesStr x')=some (r,h')):Steps1 P h c o a h' r:=by
 have vx:=opd_VR hx hE
 simp only [stepOp]at hs
 split at hs
 ·rename_i ys hys
  split at hs
  ·rename_i s hm
   simp only [Option.some.injEq,Prod.mk.injEq]at hs
   obtain ⟨rfl,rfl⟩:=hs
   obtain ⟨ns,rfl,rfl⟩:=mapM_u8 hm
   obtain ⟨ad,cap,news,q1,q2,q3,q4,q5⟩:=elems_sound hR hys vx
   have hconv:(convert src dst (a.eval x)).run P c.w=.ok (.string ⟨(ns.map fun n=>UInt8.ofNat n.toNat).toArray⟩) c.w:=by
    rw [q1,run_convert_bytes_string c.w src dst e _ _ _ hs1 he hs2]
    cases ad with
    | none =>
     have:=q4 rfl
     have:ns=[]:=by simpa using this
     subst this
     rfl
    | some adr =>
     have hnews:news=ns.map (Value.int .u8):=by
      obtain ⟨w1,w2,w3⟩:=q3
      apply List.ext_getElem?
      intro i
      by_cases hi:i<ns.length
      ·obtain ⟨_,w4⟩:=w3 i (.int .u8 ns[i]) (by simp [hi])
       obtain ⟨u,w5,w6⟩:=w4 0 (.int .u8 ns[i]) rfl
       have:=w6.int_inv
       subst this
       simp at w5
       rw [w5];simp [hi]
      ·rw [List.getElem?_eq_none (by simp at w1;omega),List.getElem?_eq_none (by simpa using Nat.le_of_not_lt hi)]
     have hl:(loadCells adr (ns.map (DV.int .u8)).length).run P c.w=.ok (ns.map (Value.int .u8)).toArray c.w:=by
      have:=run_loadCells_list (P:=P) c.w adr news (fun j v hj=>q5 adr rfl j v hj)
      rw [hnews]at this
      simpa using this
     rw [run_bytesToString c.w adr _ cap ns hl,push_bytes]
     simp [ByteArray.empty,ByteArray.emptyWithCapacity]
     try rfl
   exact ⟨.value (.string ⟨(ns.map fun n=>UInt8.ofNat n.toNat).toArray⟩),_,c.w,by simp [execOp,ho,hconv],.inl rfl,Post.pure hR (.str _)⟩
  ·cases hs
 ·cases hs
theorem rowOk_u8 (t:List UInt8):RowOk c 1 (t.map fun b=>DV.int .u8 b.toNat) (t.map fun b=>Value.int .u8 b.toNat):=by
 refine ⟨by simp,fun u hu=>?_,fun i d hd=>?_⟩
 ·simp only [List.mem_map]at hu
  obtain ⟨b,_,rfl⟩:=hu
  rfl
 ·rw [List.getElem?_map]at hd
  simp only [Option.map_eq_some_iff]at hd
  obtain ⟨b,hb,rfl⟩:=hd
  refine ⟨rfl,fun j e he=>?_⟩
  match j,he with
  | 0,he =>
   cases he
   exact ⟨.int .u8 b.toNat,by simp [hb],.int _ _⟩
  | j+1,he=>simp [ecells]at he
theorem extract_all (t:List UInt8):(ByteArray.extract ⟨t.toArray⟩ 0 t.length).data=t.toArray:=by
 rw [ByteArray.data_extract]
 simp
theorem first_str (t:List UInt8) (sz:Nat) (w:World):(Builtin.firstCells sz t.length (.string ⟨t.toArray⟩)).run P w=.ok (t.map fun b=>Value.int .u8 b.toNat).toArray w:=by
 unfold Builtin.firstCells
 simp only [extract_all]
 simp
theorem lenOf_str (t:List UInt8) (w:World):(Builtin.lenOf (.string ⟨t.toArray⟩)).run P w=.ok t.length w:=by
 simp [Builtin.lenOf,ByteArray.size]
theorem s_appendS {t u e:TypeId} {bytes:Nat} {z:DV} {s x:Operand} {s' x':Opd} (ho:o.op=.call {callee:=.builtin .append,args:=#[s,x],argTypes:=#[t,u]}) (ht:P.underlying t=some (.slice e)) (hu:P.underlying u=some .string)
  (he:elemOf' P e=some (1,bytes,z)) (hs':opd s=some s') (hx:opd x=some x') (hR:Rel h c) (hE:EnvR c env a) (hs:stepOp h env (.appendS e 1 bytes s' x')=some (r,h')):Steps1 P h c o a h' r:=by
 have vs:=opd_VR hs' hE
 have vx:=opd_VR hx hE
 obtain ⟨i,z0,hi,e1,e2,hz,hzd,hsz,hst⟩:=elem_facts he
 subst e2
 obtain ⟨hz3,hz2,hz4⟩:=storable_cells hst (constD_VR hzd c)
 have hz1:∀j (hj:j<z0.cells.size),(z0.cells[j]).oneCell'=true:=fun j hj=>(hz4 j (by omega) hj).2
 simp only [stepOp]at hs
 split at hs
 ·rename_i str hstr
  rw [hstr]at vx
  have hvx:=vx.str_inv
  have hfirst:=fun w=>first_str (P:=P) str 1 w
  have hlenof:=fun w=>lenOf_str (P:=P) str w
  obtain ⟨v',w',h1,h2⟩:=appendD_sound (P:=P) hR (by omega) (rowOk_u8 (c:=c) str) (run:=fun v=>(Builtin.append_ #[t,u] o.type #[v,a.eval x]).run P c.w)
   (fun hy base sLen sCap hle=>by
    have:str=[]:=by simpa using hy
    subst this
    rw [hvx]
    have hf:=hfirst c.w
    have hl:=hlenof c.w
    simp only [List.length_nil,List.map_nil]at hf hl
    cases base<;>simp [Builtin.append_,run_underlying ht,run_underlying hu,sizeOf,typeInfo,hi,hl,hle,hf,e1,storeCells])
   (fun b co sLen sCap cur ety g1 hroom _ hfit=>by
    rw [hvx]
    have hst:=run_storeCells (P:=P) g1 _ hfit (rowOk_u8 (c:=c) str).2.1
    have hf:=hfirst c.w
    have hl:=hlenof c.w
    simp only [List.length_map,Nat.mul_one]at hroom hst ⊢
    simp [Builtin.append_,run_underlying ht,run_underlying hu,sizeOf,typeInfo,hi,hl,hroom,hf,Addr.add_lit,e1,hst])
   (fun base sLen sCap olds hfo hg h63 hb=>by
    simp only [List.length_map]at hg h63 hb ⊢
    refine ⟨_,Builtin.zeroCells z0.cells (grownCap c.w (sLen+str.length) sCap e-(sLen+str.length)),grownCap_ge _ _ _ _,⟨by rw [zeroCells_size,hz2],oneRow_zeros hz1⟩,?_⟩
    rw [hvx]
    have hf:=hfirst c.w.drew
    have hl:=hlenof c.w
    have hn:¬(sLen+str.length≤sCap):=by omega
    have h63':¬(9223372036854775807<((sLen:Int)+(str.length:Int))):=by omega
    have h48':¬(281474976710656<Builtin.nextslicecap (sLen+str.length) sCap*i.bytes):=by have:=growslice_fits hg hb;omega
    simp [e1,Builtin.append_,run_underlying ht,run_underlying hu,sizeOf,typeInfo,zeroValue,hi,hz,hl,hn,h63',h48',Question.forced,hf,hfo,newRow,grownCap]
    congr 2
    apply Array.ext'
    simp [List.append_assoc])
   vs hs
  exact ⟨.value v',v',w',by rw [exec_builtin ho];simp [builtin,h1],.inl rfl,h2⟩
 ·cases hs
end
end Go.Dm
/-
Part 15 of "Dm": every operation that is no call does what the machine says.
-/
namespace Go.Dm
def touches:DOp→Bool
 | .alloc ..|.box ..|.buildSlice ..|.store ..|.append ..|.appendZ ..|.copy ..|.clear ..|.makeSlice ..|.makeMap|.mapUpdate ..|.delete ..|.range ..|.next ..|.entry ..|.bytesStr ..|.appendS ..|.call ..=>true
 | _=>false
def StepsT (P:Program) (h:Heap) (c:Ctx) (o:Oper) (a:Act) (h':Heap) (r:DV) (d:DOp):Prop :=
 match touches d with
 | true=>Steps1 P h c o a h' r
 | false=>Steps0 P h c o a h' r
section
variable {P:Program} {h h':Heap} {c:Ctx} {env:Env} {a:Act} {o:Oper} {r:DV}
theorem stepT {d:DOp} (hc:compOp P o=some d) (hnc:∀f as,d≠.call f as) (hR:Rel h c) (hE:EnvR c env a) (hs:stepOp h env d=some (r,h')):StepsT P h c o a h' r d:=by
 unfold compOp at hc
 split at hc
 ·rename_i x ho
  simp only [Option.map_eq_some_iff]at hc
  obtain ⟨x',hx,rfl⟩:=hc
  exact s_move (.inl ho) hx hR hE hs
 ·rename_i x ho
  simp only [Option.map_eq_some_iff]at hc
  obtain ⟨x',hx,rfl⟩:=hc
  exact s_move (.inr ho) hx hR hE hs
 ·rename_i x y z ho
  split at hc
  ·rename_i x' y' z' hx hy hz;cases hc;exact s_pick ho hx hy hz hR hE hs
  ·cases hc
 ·rename_i e ho
  split at hc
  ·rename_i sz b z he;cases hc;exact s_alloc ho he hR hE hs
  ·cases hc
 ·rename_i e x ho
  split at hc
  ·rename_i sz b z x' he hx;cases hc;exact s_box ho he hx hR hE hs
  ·cases hc
 ·rename_i t parts ho
  split at hc
  ·rename_i fs sz b z ht he
   split at hc
   ·rename_i ps hp
    split at hc
    ·rename_i hall;cases hc;exact s_buildStruct ho ht he hp hall hR hE hs
    ·cases hc
   ·cases hc
  ·rename_i n e sz b z ht he
   split at hc
   ·rename_i esz eb ez hee
    split at hc
    ·rename_i ps hp;cases hc;exact s_buildArray ho ht he hee hp hR hE hs
    ·cases hc
   ·cases hc
  ·cases hc
 ·rename_i t len parts ho
  split at hc
  ·rename_i e ht
   split at hc
   ·rename_i sz b z he
    split at hc
    ·rename_i ps hp
     split at hc
     ·rename_i hsm;cases hc;exact s_buildSlice ho ht he hp hsm hR hE hs
     ·cases hc
    ·cases hc
   ·cases hc
  ·cases hc
 ·rename_i t x ho
  split at hc
  ·rename_i n x' hn hx;cases hc;exact s_load ho hn hx hR hE hs
  ·cases hc
 ·rename_i t x y ho
  split at hc
  ·rename_i i x' y' hi hx hy
   split at hc
   ·cases hc;exact s_store ho hi hx hy hR hE hs
   ·cases hc
  ·cases hc
 ·rename_i x ho
  simp only [Option.map_eq_some_iff]at hc
  obtain ⟨x',hx,rfl⟩:=hc
  exact s_nilCheck ho hx hR hE hs
 ·rename_i op t x y u ho
  split at hc
  ·rename_i x' y' hx hy
   split at hc
   ·cases hc;exact s_arith ho hx hy hR hE hs
   ·cases hc;exact s_arith ho hx hy hR hE hs
   ·rename_i hu
    split at hc
    ·cases hc;exact s_eqb (neq:=false) (by simpa using ho) hu hx hy hR hE hs
    ·cases hc;exact s_eqb (neq:=true) (by simpa using ho) hu hx hy hR hE hs
    ·cases hc
   ·rename_i fs hu
    split at hc
    ·rename_i ks hk;cases hc;exact s_eqa (neq:=false) (by simpa using ho) (by simp [isAggTy,hu]) hk hx hy hR hE hs
    ·rename_i ks hk;cases hc;exact s_eqa (neq:=true) (by simpa using ho) (by simp [isAggTy,hu]) hk hx hy hR hE hs
    ·cases hc
   ·rename_i n e hu
    split at hc
    ·rename_i ks hk;cases hc;exact s_eqa (neq:=false) (by simpa using ho) (by simp [isAggTy,hu]) hk hx hy hR hE hs
    ·rename_i ks hk;cases hc;exact s_eqa (neq:=true) (by simpa using ho) (by simp [isAggTy,hu]) hk hx hy hR hE hs
    ·cases hc
   ·rename_i desc _ _ _ _ _ hu
    split at hc
    ·rename_i k hk
     split at hc
     ·rename_i hcc
      split at hc
      ·cases hc;exact s_eqn (neq:=false) (by simpa using ho) hu hk hcc hx hy hR hE hs
      ·cases hc;exact s_eqn (neq:=true) (by simpa using ho) hu hk hcc hx hy hR hE hs
      ·cases hc
     ·cases hc
    ·cases hc
   ·cases hc
  ·cases hc
 ·rename_i op t x ho
  simp only [Option.map_eq_some_iff]at hc
  obtain ⟨x',hx,rfl⟩:=hc
  exact s_un ho hx hR hE hs
 ·rename_i src dst x ho
  split at hc
  ·rename_i k0 k x' h1 h2 hx;cases hc;exact s_conv ho h1 h2 hx hR hE hs
  ·rename_i x' h1 h2 hx;cases hc;exact s_asStr ho h1 h2 hx hR hE hs
  ·rename_i e x' h1 h2 hx
   split at hc
   ·rename_i h3;cases hc;exact s_bytesStr ho h1 h2 (isU8_eq h3) hx hR hE hs
   ·cases hc;exact (fail_never hs).elim
  ·cases hc;exact (fail_never hs).elim
 ·rename_i f first cap ho
  split at hc
  ·rename_i hf
   split at hc
   ·rename_i c' hcap;cases hc;exact s_makeFunc ho hf hcap hR hE hs
   ·cases hc
  ·cases hc
 ·rename_i s x f ho
  split at hc
  ·rename_i fs x' hu hx
   split at hc
   ·rename_i fl hf
    split at hc
    ·rename_i i hi
     split at hc
     ·rename_i hsz;cases hc;exact s_fieldAddr ho hu hf hi hsz hx hR hE hs
     ·cases hc
    ·cases hc
   ·cases hc
  ·cases hc
 ·rename_i s x f ho
  split at hc
  ·rename_i fs x' hu hx
   split at hc
   ·rename_i fl hf
    split at hc
    ·rename_i n hn;cases hc;exact s_field ho hu hf hn hx hR hE hs
    ·cases hc
   ·cases hc
  ·cases hc
 ·rename_i t x i ho
  split at hc
  ·rename_i e x' i' hu hx hi
   split at hc
   ·rename_i fi hfi
    split at hc
    ·rename_i hsz;cases hc;exact s_indexAddr ho hu hfi hsz hx hi hR hE hs
    ·cases hc
   ·cases hc
  ·rename_i len e x' i' hu hx hi
   split at hc
   ·rename_i fi hfi
    split at hc
    ·rename_i hsz;cases hc;exact s_indexArr ho hu hfi hx hi hR hE hs
    ·cases hc
   ·cases hc
  ·cases hc
 ·rename_i t x i ho
  split at hc
  ·rename_i len e x' i' hu hx hi
   split at hc
   ·rename_i fi n hfi hn;cases hc;exact s_index ho hu hfi hn hx hi hR hE hs
   ·cases hc
  ·rename_i x' i' hu hx hi;cases hc;exact s_indexStr ho hu hx hi hR hE hs
  ·cases hc
 ·rename_i t x lo hi ho
  split at hc
  ·rename_i x' lo' hi' hu hx hlo hhi;cases hc;exact s_sliceStr ho hu hx hlo hhi hR hE hs
  ·rename_i e x' lo' hi' hu hx hlo hhi
   split at hc
   ·rename_i fi hfi
    split at hc
    ·rename_i hsz;cases hc;exact s_sliceSl ho hu hfi hsz hx hlo hhi hR hE hs
    ·cases hc
   ·cases hc
  ·cases hc
 ·rename_i t x lo hi mx ho
  split at hc
  ·rename_i e x' lo' hi' mx' hu hx hlo hhi hmx
   split at hc
   ·rename_i fi hfi;cases hc;exact s_slice3 ho hu hfi hx hlo hhi hmx hE hs
   ·cases hc
  ·cases hc
 ·rename_i t l m ho
  split at hc
  ·rename_i e hu
   split at hc
   ·rename_i sz b z l' m' he hl hm;cases hc;exact s_makeSlice ho hu he hl hm hR hE hs
   ·cases hc
  ·cases hc
 ·rename_i t ho
  cases hc;exact s_makeMap ho hR hE hs
 ·rename_i t m k ok ho
  split at hc
  ·rename_i key e hu
   split at hc
   ·rename_i sz b z m' k' q he hm hk hq;cases hc;exact s_lookup ho hu he hq hm hk hR hE hs
   ·cases hc
  ·cases hc
 ·rename_i t m k x ho
  split at hc
  ·rename_i key e hu
   split at hc
   ·rename_i m' k' x' q hm hk hx hq;cases hc;exact s_mapUpdate (.inl ho) hu hq hm hk hx hR hE hs
   ·cases hc
  ·cases hc
 ·rename_i t m k x ho
  split at hc
  ·rename_i key e hu
   split at hc
   ·rename_i m' k' x' q hm hk hx hq;cases hc;exact s_mapUpdate (.inr ho) hu hq hm hk hx hR hE hs
   ·cases hc
  ·cases hc
 ·rename_i x i ho
  simp only [Option.map_eq_some_iff]at hc
  obtain ⟨x',hx,rfl⟩:=hc
  exact s_extract ho hx hR hE hs
 ·rename_i t x ho
  split at hc
  ·cases hc;cases hs
  ·cases hc;exact (fail_never hs).elim
 ·rename_i x sb ho
  split at hc
  ·cases hc;exact (fail_never hs).elim
  ·rename_i hsb
   simp only [Option.map_eq_some_iff]at hc
   obtain ⟨x',hx,rfl⟩:=hc
   cases hs
 ·rename_i x ho
  simp only [Option.map_eq_some_iff]at hc
  obtain ⟨x',hx,rfl⟩:=hc
  cases hs
 ·rename_i t x ho
  split at hc
  ·cases hc
  ·rename_i desc x' hni hu hx
   cases hc
   exact s_makeIface ho hu (fun ms e=>hni ms (e ▸ rfl)) hx hR hE hs
  ·cases hc
 ·rename_i b args ats ho
  have conv1:∀{x:Operand} {t:TypeId},args.toList=[x]→ats.toList=[t]→o.op=.call {callee:=.builtin b,args:=#[x],argTypes:=#[t]}:=by
   intro x t h1 h2
   rw [ho]
   have e1:args=#[x]:=by apply Array.ext';simpa using h1
   have e2:ats=#[t]:=by apply Array.ext';simpa using h2
   rw [e1,e2]
  have conv2:∀{x y:Operand} {t u:TypeId},args.toList=[x,y]→ats.toList=[t,u]→o.op=.call {callee:=.builtin b,args:=#[x,y],argTypes:=#[t,u]}:=by
   intro x y t u h1 h2
   rw [ho]
   have e1:args=#[x,y]:=by apply Array.ext';simpa using h1
   have e2:ats=#[t,u]:=by apply Array.ext';simpa using h2
   rw [e1,e2]
  have conv3:∀{x y:Operand},args.toList=[x,y]→o.op=.call {callee:=.builtin b,args:=#[x,y],argTypes:=ats}:=by
   intro x y h1
   rw [ho]
   have e1:args=#[x,y]:=by apply Array.ext';simpa using h1
   rw [e1]
  split at hc
  ·rename_i x t ha ht
   split at hc
   ·rename_i x' hu hx;cases hc;exact s_len (conv1 ha ht) hu rfl hx hR hE hs
   ·rename_i e x' hu hx;cases hc;exact s_len (conv1 ha ht) hu rfl hx hR hE hs
   ·rename_i k e x' hu hx;cases hc;exact s_len (conv1 ha ht) hu rfl hx hR hE hs
   ·rename_i n e x' hu hx;cases hc;exact s_lenArr (_x':=x') (conv1 ha ht) hu hR hE hs
   ·cases hc
  ·rename_i x t ha ht
   split at hc
   ·rename_i e x' hu hx;cases hc;exact s_cap (conv1 ha ht) hu hx hR hE hs
   ·cases hc
  ·rename_i s x t u ha ht
   split at hc
   ·rename_i e hu
    split at hc
    ·rename_i sz b' z s' x' e' he hs' hx hu'
     split at hc
     ·rename_i hee;subst hee;cases hc;exact s_append (conv2 ha ht) hu hu' he hs' hx hR hE hs
     ·cases hc
    ·rename_i sz b' z s' x' k he hs' hx hu';cases hc;exact s_appendZ (conv2 ha ht) hu hu' he hs' hx hR hE hs
    ·rename_i sz b' z s' x' he hs' hx hu'
     split at hc
     ·rename_i h3;obtain ⟨h3,_⟩:=h3;subst h3;cases hc;exact s_appendS (conv2 ha ht) hu hu' he hs' hx hR hE hs
     ·cases hc
    ·cases hc
   ·cases hc
  ·rename_i d s t u ha ht
   split at hc
   ·rename_i e e' hu hu'
    split at hc
    ·rename_i fi d' s' hfi hd hs'
     split at hc
     ·cases hc;exact s_copy (conv2 ha ht) hu hfi hd hs' hR hE hs
     ·cases hc
    ·cases hc
   ·cases hc
  ·rename_i x t ha ht
   split at hc
   ·rename_i e hu
    split at hc
    ·rename_i sz b' z x' he hx;cases hc;exact s_clear (conv1 ha ht) hu he hx hR hE hs
    ·cases hc
   ·cases hc
  ·rename_i m k t u ha ht
   split at hc
   ·rename_i key e hu
    split at hc
    ·rename_i m' k' q hm hk hq;cases hc;exact s_delete (conv2 ha ht) hu hq hm hk hR hE hs
    ·cases hc
   ·cases hc
  ·rename_i x y ha
   split at hc
   ·rename_i x' y' hx hy;cases hc;exact s_minmax (mx:=true) (by simpa using conv3 ha) hx hy hR hE hs
   ·cases hc
  ·rename_i x y ha
   split at hc
   ·rename_i x' y' hx hy;cases hc;exact s_minmax (mx:=false) (by simpa using conv3 ha) hx hy hR hE hs
   ·cases hc
  ·cases hc;exact (fail_never hs).elim
 ·rename_i f args ats ho
  split at hc
  ·cases hc;exact absurd rfl (hnc _ _)
  ·cases hc
 ·cases hc;exact (fail_never hs).elim
theorem step_sound {d:DOp} (hc:compOp P o=some d) (hnc:∀f as,d≠.call f as) (hR:Rel h c) (hE:EnvR c env a) (hs:stepOp h env d=some (r,h')):Steps1 P h c o a h' r:=by
 have:=stepT hc hnc hR hE hs
 unfold StepsT at this
 split at this
 ·exact this
 ·exact this.toSteps1 hR
theorem read_sound {d:DOp} (hc:compOp P o=some d) (ht:touches d=false) (hR:Rel h c) (hE:EnvR c env a) (hs:stepOp h env d=some (r,h')):Steps0 P h c o a h' r:=by
 have:=stepT hc (fun f as e=>by subst e;simp [touches]at ht) hR hE hs
 unfold StepsT at this
 rw [ht]at this
 exact this
end
end Go.Dm
/-
Part 16 of "Dm": code brought into the machine's form.
-/
namespace Go.Dm
def guardT (ops:List Oper):Option (Nat×Bool)→Option (Option (Nat×Bool))
 | none=>some none
 | some (j,want)=>match ops[j]? with
  | some g=>match g.dst with
   | some t=>some (some (t,want))
   | none=>none
  | none=>none
def compOper (P:Program) (ops:List Oper) (kind:OKind) (snap:Nat) (o:Oper):Option DOper :=
 match compOp P o,guardT ops o.guard with
 | some d,some g=>some {dst:=o.dst,op:=d,guard:=g,kind,snap,calm:=false}
 | _,_=>none
def bits (ops:List Oper):List Nat :=
 ops.foldl (fun acc o=>acc++[o.after.toList.foldl (fun s e=>if Region.binds .any e then s ||| 2 ^ e.on ||| acc.getD e.on 0 else s) 0]) []
inductive Cls where
 | env|read|alloc|heap
 deriving DecidableEq,Inhabited
def DOp.cls:DOp→Cls
 | .len 2 _|.load ..|.sliceSl ..|.cap ..|.lookup ..=>.read
 | .alloc ..|.buildSlice ..=>.alloc
 | d=>if touches d then .heap else .env
def lazyOrder (cs:List Cls) (bs:List Nat):List Nat :=
 let r:=(List.range cs.length).foldl (fun (st:List Nat×List Nat) j =>
  match cs.getD j .env with
  | .env|.alloc=>(st.1,st.2++[j])
  | _=>(st.1++st.2.filter (fun i=>(bs.getD j 0).testBit i)++[j],st.2.filter fun i=>!(bs.getD j 0).testBit i)) ([],[])
 r.1++r.2
def Opd.tmps:Opd→List Nat
 | .t n=>[n]
 | .c _=>[]
def optTmps:Option Opd→List Nat
 | none=>[]
 | some x=>x.tmps
def DOp.tmps:DOp→List Nat
 | .alloc ..|.makeMap=>[]
 | .move x|.box _ _ x|.load _ x|.nilCheck x|.un _ x|.conv _ x|.asStr x|.fieldAddr _ x|.field _ _ x|.len _ x|.cap x|.clear _ _ x|.extract x _|.makeIface _ x|.range x|.next x|.entry x|.bytesStr x=>x.tmps
 | .pick c a b=>c.tmps++a.tmps++b.tmps
 | .build _ parts=>parts.flatMap fun p=>p.2.2.tmps
 | .buildSlice _ _ _ _ parts=>parts.flatMap fun p=>p.2.tmps
 | .store _ x y|.arith _ x y|.eqb _ x y|.eqa _ _ x y|.eqn _ _ x y|.indexAddr _ x y|.indexArr _ _ x y|.index _ _ _ x y|.indexStr x y
 | .append _ _ _ x y|.appendZ _ _ _ _ x y|.appendS _ _ _ x y|.copy _ x y|.makeSlice _ _ _ _ x y|.minmax _ x y|.lookup _ _ _ x y|.delete _ x y=>x.tmps++y.tmps
 | .mapUpdate _ x y z=>x.tmps++y.tmps++z.tmps
 | .sliceStr x lo hi|.sliceSl _ x lo hi=>x.tmps++optTmps lo++optTmps hi
 | .slice3 x lo hi mx=>x.tmps++lo.tmps++hi.tmps++mx.tmps
 | .makeFunc _ l=>l.flatMap Opd.tmps
 | .call f as=>f.tmps++as.flatMap Opd.tmps
def DOper.reads (o:DOper):List Nat:=o.op.tmps++(match o.guard with|some (t,_)=>[t]|none=>[])
def clash (x y:DOper):Bool :=
 (match x.dst with|some d=>y.reads.contains d || y.dst == some d|none=>false) ||
 (match y.dst with|some d=>x.reads.contains d|none=>false)
def freeP (x y:DOper):Bool :=
 !clash x y &&
 match x.op.cls,y.op.cls with
 | .env,_|_,.env=>true
 | _,.alloc=>true
 | .alloc,.read=>true
 | .alloc,.heap=>false
 | .heap,.heap=>false
 | .read,.read=>true
 | .heap,.read=>true
 | .read,.heap=>true
def kindFits (d:DOper):Bool :=
 match d.op.cls,d.kind with
 | .env,.read|.read,.read|.alloc,.create|.heap,.create|.heap,.write=>true
 | _,_=>false
def pairOk (b:Bool) (rp:Nat) (x y:DOper):Bool :=
 (b || freeP x y) && (x.dst.isNone || x.dst != y.dst) &&
 (!(y.op.cls == .read && x.kind != .read) || (if rp<y.snap then b else x.op.cls == .alloc || (!b && x.kind == .create && decide (y.snap≤x.snap)))) &&
 (!(x.op.cls == .read && y.op.cls == .heap) || b || (y.kind == .create && decide (x.snap≤y.snap))) &&
 (!(x.calm && y.op.cls == .heap) || b)
def bitAt (bs:List Nat) (j i:Nat):Bool:=(bs.getD j 0).testBit i
def rankAt (ds:List (Nat×DOper)) (p:Nat):Nat:=((ds.take p).filter fun x=>x.2.kind != .read).length
def drawOk (ops:List Oper) (ds:List (Nat×DOper)) (bs:List Nat):Bool :=
 ops.zipIdx.all (fun x=>x.1.after.toList.all fun e=>!Region.binds .any e || (bitAt bs x.2 e.on && decide (e.on<x.2))) &&
 ops.zipIdx.all (fun x=>(List.range ops.length).all fun i=>!bitAt bs x.2 i || x.1.after.toList.any fun e=>Region.binds .any e && (e.on == i || bitAt bs e.on i)) &&
 (List.range ops.length).all (fun i=>ds.any fun x=>x.1 == i) &&
 ds.all (fun x=>kindFits x.2) &&
 ds.zipIdx.all (fun y=>(ds.take y.2).zipIdx.all fun x=>x.1.1 != y.1.1 && !bitAt bs x.1.1 y.1.1 && pairOk (bitAt bs y.1.1 x.1.1) (rankAt ds x.2) x.1.2 y.1.2)
def snapOf (cs:List Cls) (ord:List Nat) (b:Nat):Nat :=
 ((ord.filter fun i=>cs.getD i .env == .heap || cs.getD i .env == .alloc).takeWhile fun i=>b.testBit i).length
def kindOf (cs:List Cls) (bs:List Nat) (j:Nat):OKind :=
 match cs.getD j .env with
 | .env|.read=>.read
 | .alloc=>.create
 | .heap=>if (List.range cs.length).all fun i=>cs.getD i .env != .read || (bs.getD j 0).testBit i || (bs.getD i 0).testBit j then .write else .create
def limOf (cs:List Cls) (ord:List Nat) (bs:List Nat) (j:Nat):Nat :=
 (List.range cs.length).foldl (fun s i=>if cs.getD i .env == .read && !(bs.getD j 0).testBit i && !(bs.getD i 0).testBit j then max s (snapOf cs ord (bs.getD i 0)) else s) 0
def calmOf (dops:List DOp) (cs:List Cls) (bs:List Nat) (i:Nat):Bool :=
 cs.getD i .env == .read &&
 ((List.range cs.length).any fun j=>(match dops[j]? with|some (.store ..)=>true|_=>false) && kindOf cs bs j == .create) &&
 (List.range cs.length).all fun j=>cs.getD j .env != .heap || (bs.getD j 0).testBit i || (bs.getD i 0).testBit j
def compRegion (P:Program) (ops:List Oper) (draw:Bool):Option DCode :=
 if draw then
  match ops.mapM (compOp P) with
  | none=>none
  | some dops =>
   let bs:=bits ops
   let cs:=dops.map DOp.cls
   let ord:=lazyOrder cs bs
   match ord.mapM (fun i=>match ops[i]? with
    | some o=>(compOper P ops (kindOf cs bs i) (if kindOf cs bs i=OKind.create then limOf cs ord bs i else snapOf cs ord (bs.getD i 0)) o).map fun (d:DOper)=>(i,({d with calm:=calmOf dops cs bs i}:DOper))
    | none=>none) with
   | some ds=>if drawOk ops ds bs then some (.draw (ds.map (·.2))) else none
   | none=>none
 else match ops.mapM (compOper P ops .write 0) with
  | some ds=>some (.region ds)
  | none=>none
def notWalk:DCode→Bool
 | .walk ..=>false
 | _=>true
def isConst:DOp→Bool
 | .move (.c _)=>true
 | _=>false
def occOps (ops:List DOper):List (Nat×Nat):=ops.flatMap fun o=>o.reads.map (fun t=>(0,t))++(match o.dst with|some d=>[(if isConst o.op then 2 else 1,d)]|none=>[])
def DCode.occ:DCode→List (Nat×Nat)
 | .seq a b=>a.occ++b.occ
 | .cond c a b=>c.tmps.map (fun t=>(0,t))++(a.occ++b.occ)
 | .block _ b|.loop b=>b.occ
 | .region ops|.draw ops=>occOps ops
 | .walk x it nx ok en _ _ _ ops b=>x.tmps.map (fun t=>(0,t))++([(1,it),(1,nx),(1,ok),(1,en)]++(occOps ops++b.occ))
 | _=>[]
def killsOf (l:List (Nat×Nat)):List Nat :=
 let st:=l.foldl (fun (st:List Nat×List Nat) o=>if st.1.contains o.2 then st else (o.2::st.1,if o.1=0 then st.2 else o.2::st.2)) ([],[])
 st.2.filter fun t=>l.any fun o=>o.1 == 1 && o.2 == t
def walkOf:DCode→DCode→Option DCode
 | .region ds,.block X (.loop (.seq (.region [⟨some nx,.next (.t it),none,_,_,_⟩,⟨some ok,.extract (.t nx') 0,none,_,_,_⟩]) (.seq (.cond (.t ok') .skip (.exit X')) (.block Y (.seq (.region (⟨some en,.entry (.t it'),none,_,_,_⟩::ops)) b))))) =>
  match ds.getLast? with
  | some ⟨some it2,.range x,none,_,_,_⟩ =>
   if (it2=it∧it'=it∧nx'=nx∧ok'=ok∧X'=X)∧notWalk b=true∧it≠nx∧it≠ok then
    some (.seq (.region ds.dropLast) (.walk x it nx ok en X Y (it::nx::ok::en::killsOf ((1,en)::(occOps ops++b.occ))) ops b)) else none
  | _=>none
 | _,_=>none
def mkSeq (a b:DCode):DCode:=(walkOf a b).getD (.seq a b)
def compCode (P:Program):Code→Option DCode
 | .skip=>some .skip
 | .seq a b=>match compCode P a,compCode P b with|some a,some b=>some (mkSeq a b)|_,_=>none
 | .cond c a b=>match opd c,compCode P a,compCode P b with|some c,some a,some b=>some (.cond c a b)|_,_,_=>none
 | .block id b=>match compCode P b with|some b=>some (.block id b)|none=>none
 | .loop b=>match compCode P b with|some b=>some (.loop b)|none=>none
 | .exit id=>some (.exit id)
 | .ret=>some .ret
 | .region _ ops draw=>compRegion P ops.toList draw
 | _=>none
def compRes (P:Program):ResultVar→Option DRes
 | .tmp t=>some (.t t)
 | .cell a t=>match nOf P t with|some n=>some (.cell a n)|none=>none
def compFunc (P:Program) (fn:Func) (mode:CMode):Option DFunc :=
 match fn.body with
 | some body=>match compCode P body,fn.results.toList.mapM (compRes P) with
  | some b, some rs => if fn.name ≠ "runtime.NumGoroutine" then some { ntmps := fn.ntmps, results := rs, body := b, mode } else none
  | _,_=>none
 | none=>none
end Go.Dm
/-
Part 17 of "Dm": what an operation looks at, and what it leaves as it was.
-/
namespace Go.Dm
def Agree (ts:List Nat) (env env':Env):Prop:=∀t,t∈ts→(env[t]?).getD .unk=(env'[t]?).getD .unk
theorem Agree.app {ts us:List Nat} {env env':Env} (h:Agree (ts++us) env env'):Agree ts env env'∧Agree us env env' :=
 ⟨fun t ht=>h t (List.mem_append_left _ ht),fun t ht=>h t (List.mem_append_right _ ht)⟩
theorem Agree.opd {x:Opd} {env env':Env} (h:Agree x.tmps env env'):x.eval env=x.eval env':=by
 cases x with
 | t n=>exact h n (by simp [Opd.tmps])
 | c v=>rfl
theorem Agree.flat {α:Type} {l:List α} {f:α→List Nat} {env env':Env} (h:Agree (l.flatMap f) env env'):∀x,x∈l→Agree (f x) env env' :=
 fun x hx t ht=>h t (List.mem_flatMap.2 ⟨x,hx,ht⟩)
theorem Agree.bound {x:Option Opd} {env env':Env} (h:Agree (optTmps x) env env') (d l:Nat):bound env x d l=bound env' x d l:=by
 cases x with
 | none=>rfl
 | some x=>simp only [Dm.bound,Agree.opd (x:=x) h]
theorem stepOp_congr {d:DOp} {h:Heap} {env env':Env} (hd:Agree d.tmps env env'):stepOp h env d=stepOp h env' d:=by
 cases d<;>simp only [DOp.tmps]at hd
 case makeMap=>rfl
 case alloc=>rfl
 case call=>rfl
 case pick c a b =>
  obtain ⟨hd,h3⟩:=hd.app
  obtain ⟨h1,h2⟩:=hd.app
  simp only [stepOp,h1.opd,h2.opd,h3.opd]
 case mapUpdate q m k x =>
  obtain ⟨hd,h3⟩:=hd.app
  obtain ⟨h1,h2⟩:=hd.app
  simp only [stepOp,h1.opd,h2.opd,h3.opd]
 case build z parts =>
  have:parts.map (fun p=>(p.1,p.2.1,p.2.2.eval env))=parts.map (fun p=>(p.1,p.2.1,p.2.2.eval env')) :=
   List.map_congr_left fun p hp=>by rw [(hd.flat p hp).opd]
  simp only [stepOp,this]
 case buildSlice e s z n parts =>
  have:parts.map (fun p=>(p.1,p.2.eval env))=parts.map (fun p=>(p.1,p.2.eval env')) :=
   List.map_congr_left fun p hp=>by rw [(hd.flat p hp).opd]
  simp only [stepOp,this]
 case makeFunc f l =>
  have:l.map (Opd.eval env)=l.map (Opd.eval env'):=List.map_congr_left fun p hp=>(hd.flat p hp).opd
  simp only [stepOp,this]
 case sliceStr x lo hi =>
  obtain ⟨hd,h3⟩:=hd.app
  obtain ⟨h1,h2⟩:=hd.app
  simp only [stepOp,h1.opd,h2.bound,h3.bound]
 case slice3 x lo hi mx =>
  obtain ⟨hd,h4⟩:=hd.app
  obtain ⟨hd,h3⟩:=hd.app
  obtain ⟨h1,h2⟩:=hd.app
  have e:∀(y:Opd) d l,Agree y.tmps env env'→bound env (some y) d l=bound env' (some y) d l:=fun y d l hy=>by simp only [Dm.bound,hy.opd]
  simp only [stepOp,h1.opd,e lo _ _ h2,e hi _ _ h3,e mx _ _ h4]
 case sliceSl sz x lo hi =>
  obtain ⟨hd,h3⟩:=hd.app
  obtain ⟨h1,h2⟩:=hd.app
  simp only [stepOp,h1.opd,h2.bound,h3.bound]
 all_goals first
  | simp only [stepOp,hd.opd]
  | (obtain ⟨h1,h2⟩:=hd.app;simp only [stepOp,h1.opd,h2.opd])
theorem oneOp_congr {d:DOp} {call:Nat→List DV→Heap→Option (DV×Heap)} {h:Heap} {env env':Env} (hd:Agree d.tmps env env'):oneOp call d env h=oneOp call d env' h:=by
 cases d
 case call f as =>
  simp only [DOp.tmps]at hd
  obtain ⟨h1,h2⟩:=hd.app
  have:as.map (Opd.eval env)=as.map (Opd.eval env'):=List.map_congr_left fun p hp=>(h2.flat p hp).opd
  simp only [oneOp,h1.opd,this]
 all_goals exact stepOp_congr (h:=h) hd
theorem target_congr {d:DOp} {env env':Env} (hd:Agree d.tmps env env'):target env d=target env' d:=by
 cases d<;>simp only [DOp.tmps]at hd<;>try rfl
 case load n a=>simp only [target,hd.opd]
 case cap x=>simp only [target,hd.opd]
 case len k x=>simp only [target,hd.opd]
 case sliceSl sz x lo hi =>
  obtain ⟨hd,h3⟩:=hd.app
  obtain ⟨h1,h2⟩:=hd.app
  simp only [target,h1.opd]
 case lookup q z ok m k =>
  obtain ⟨h1,h2⟩:=hd.app
  simp only [target,h1.opd]
theorem mark_congr {d:DOp} {env env':Env} (hd:Agree d.tmps env env'):mark env d=mark env' d:=by
 have ht:=target_congr hd
 cases d<;>simp only [mark,ht]
 case load n a=>simp only [DOp.tmps]at hd;simp only [hd.opd]
theorem mark_target {d:DOp} {env:Env} {r:Nat×Place} (h:mark env d=some r):target env d=some r.1:=by
 cases d<;>simp only [mark,Option.map_eq_some_iff]at h
 case load n a =>
  simp only [target]
  split at h
  ·rename_i he;cases h;first|rfl|rw [he]
  ·cases h
 all_goals (obtain ⟨id,h1,h2⟩:=h;subst h2;exact h1)
theorem poke_oneOp {L:DLog} {o:DOp} {call:Nat→List DV→Heap→Option (DV×Heap)} {h:Heap} {env:Env} {id:Nat} (hp:pokeId L env o=some id):oneOp call o env h=stepOp h env o:=by
 cases o<;>first|(simp only [pokeId]at hp;cases hp;done)|rfl
def made (env:Env):DOp→Option (Nat×Nat×List DV)
 | .alloc ety sz z=>some (ety,sz,[z])
 | .buildSlice ety sz z len parts=>(fillElems sz (List.replicate len z) (parts.map fun p=>(p.1,p.2.eval env))).map fun xs=>(ety,sz,xs)
 | _=>none
def madeV (id:Nat):DOp→DV
 | .alloc _ sz _=>.ptr id sz 0 0
 | .buildSlice _ sz _ len _=>.sl id sz 0 len
 | _=>.unk
theorem made_congr {d:DOp} {env env':Env} (hd:Agree d.tmps env env'):made env d=made env' d:=by
 cases d<;>simp only [DOp.tmps]at hd<;>try rfl
 case buildSlice e s z n parts =>
  have:parts.map (fun p=>(p.1,p.2.eval env))=parts.map (fun p=>(p.1,p.2.eval env')) :=
   List.map_congr_left fun p hp=>by rw [(hd.flat p hp).opd]
  simp only [made,this]
theorem fillElems_length {sz:Nat}:∀(ps:List (Nat×DV)) {xs ys:List DV},fillElems sz xs ps=some ys→ys.length=xs.length:=by
 intro ps
 induction ps with
 | nil=>intro xs ys h;simp only [fillElems]at h;cases h;rfl
 | cons p ps ih =>
  intro xs ys h
  obtain ⟨i,v⟩:=p
  simp only [fillElems]at h
  split at h
  ·rw [ih h,List.length_set]
  ·cases h
theorem cls_made {d:DOp} (ha:d.cls=.alloc):(∃ ety sz z,d=.alloc ety sz z)∨∃ ety sz z len parts,d=.buildSlice ety sz z len parts:=by
 unfold DOp.cls at ha
 split at ha
 all_goals first|(cases ha;done)|exact .inl ⟨_,_,_,rfl⟩|exact .inr ⟨_,_,_,_,_,rfl⟩|skip
 split at ha<;>cases ha
theorem stepOp_made {d:DOp} (ha:d.cls=.alloc) {h h':Heap} {env:Env} {v:DV} (hs:stepOp h env d=some (v,h')) :
  ∃ ety sz xs,made env d=some (ety,sz,xs)∧v=madeV h.n d∧h'=h.push (.arr ety sz xs (some xs.length)):=by
 rcases cls_made ha with ⟨ety,sz,z,rfl⟩|⟨ety,sz,z,len,parts,rfl⟩
 ·simp only [stepOp,Option.some.injEq,Prod.mk.injEq]at hs
  obtain ⟨rfl,rfl⟩:=hs
  exact ⟨_,_,_,rfl,rfl,rfl⟩
 ·simp only [stepOp]at hs
  split at hs
  ·rename_i xs hxs
   simp only [Option.some.injEq,Prod.mk.injEq]at hs
   obtain ⟨rfl,rfl⟩:=hs
   refine ⟨ety,sz,xs,by simp only [made,hxs,Option.map_some],rfl,?_⟩
   have:=fillElems_length _ hxs
   rw [List.length_replicate]at this
   rw [this]
  ·cases hs
theorem stepOp_env {d:DOp} {h h2:Heap} {env:Env} {v:DV} {h':Heap} (hd:d.cls=.env) (hs:stepOp h env d=some (v,h')):stepOp h2 env d=some (v,h2):=by
 cases d<;>simp only [DOp.cls,touches]at hd<;>try (cases hd)
 case len k x =>
  have hk:k≠2:=fun e=>by subst e;cases hd
  clear hd
  simp only [stepOp]at hs ⊢
  cases hx:x.eval env<;>rw [hx]at hs<;>simp only at hs ⊢<;>try (cases hs)
  case map id =>
   cases hg:h.get id with
   | none=>rw [hg]at hs;cases hs
   | some o=>rw [hg]at hs;cases o<;>simp only [hk,if_false]at hs<;>cases hs
  all_goals (split at hs;(rename_i e;cases hs;simp [e]);cases hs)
 case minmax mx x y =>
  simp only [stepOp]at hs ⊢
  split at hs
  ·rename_i h1 h2;cases hs;simp
  ·cases hs
 all_goals (simp only [stepOp]at hs ⊢;repeat' split at hs)<;>simp_all
def Grows (h h2:Heap):Prop:=∀id o,h.get id=some o→alive o=true→h2.get id=some o
def GrowsT (d:DOp) (env:Env) (h h2:Heap):Prop:=∀id o,target env d=some id→h.get id=some o→alive o=true→h2.get id=some o
theorem Grows.t {h h2:Heap} (hg:Grows h h2) (d:DOp) (env:Env):GrowsT d env h h2:=fun id o _ h1 h2=>hg id o h1 h2
theorem loadP_grows {h h2:Heap} {n:Option Nat} {a v:DV} (hg:∀id sz idx off,a=.ptr id sz idx off→∀o,h.get id=some o→alive o=true→h2.get id=some o) (hs:loadP h n a=some v):loadP h2 n a=some v:=by
 unfold loadP at hs ⊢
 split at hs
 ·split at hs
  ·rename_i hx
   rw [hg _ _ _ _ rfl _ hx rfl];exact hs
  ·cases hs
 ·exact hs
 ·cases hs
theorem stepOp_growsT {d:DOp} {h h2:Heap} {env:Env} {v:DV} {h':Heap} (hg:GrowsT d env h h2) (hd:touches d=false) (hs:stepOp h env d=some (v,h')):stepOp h2 env d=some (v,h2):=by
 by_cases hc:d.cls=.env
 ·exact stepOp_env hc hs
 cases d<;>simp only [touches]at hd<;>try (exact Bool.noConfusion hd)
 case load n a =>
  simp only [stepOp]at hs ⊢
  split at hs
  ·rename_i v' hl;cases hs;rw [loadP_grows (fun id sz idx off he o h1 h2=>hg id o (by simp only [target,he]) h1 h2) hl]
  ·cases hs
 case sliceSl sz x lo hi =>
  simp only [stepOp]at hs ⊢
  split at hs
  ·(repeat' split at hs)<;>simp_all
  ·(repeat' split at hs)<;>simp_all
  ·rename_i hev
   split at hs
   ·rename_i hx
    rw [hg _ _ (by simp only [target,hev]) hx rfl]
    (repeat' split at hs)<;>first|cases hs|skip
    rename_i h1 _ _ h2 _ _ h3
    simp only [if_pos h1,h2,h3]
   ·cases hs
  ·cases hs
 case cap x =>
  simp only [stepOp]at hs ⊢
  split at hs
  ·cases hs;rfl
  ·rename_i hev
   split at hs
   ·rename_i hx;rw [hg _ _ (by simp only [target,hev]) hx rfl]
    split at hs
    ·rename_i e;cases hs;simp [e]
    ·cases hs
   ·rename_i hx;rw [hg _ _ (by simp only [target,hev]) hx rfl]
    split at hs
    ·rename_i e;cases hs;simp [e]
    ·cases hs
   ·cases hs
  ·cases hs
 case len k x =>
  simp only [stepOp]at hs ⊢
  cases hx:x.eval env<;>rw [hx]at hs<;>simp only at hs ⊢<;>try (cases hs)
  case map id =>
   cases hx2:h.get id with
   | none=>rw [hx2]at hs;cases hs
   | some o =>
    rw [hx2]at hs
    cases o<;>simp only at hs<;>try (cases hs)
    rw [hg _ _ (by simp only [target,hx]) hx2 rfl]
    split at hs
    ·rename_i e;cases hs;simp [e]
    ·cases hs
  all_goals (split at hs;(rename_i e;cases hs;simp [e]);cases hs)
 case lookup q z ok m k =>
  simp only [stepOp]at hs ⊢
  cases hm:m.eval env<;>rw [hm]at hs<;>simp only at hs ⊢<;>try (cases hs)
  ·(repeat' split at hs)<;>simp_all
  ·rename_i id
   cases hx:h.get id with
   | none=>rw [hx]at hs;cases hs
   | some o =>
    rw [hx]at hs
    cases o<;>simp only at hs<;>try (cases hs)
    rw [hg _ _ (by simp only [target,hm]) hx rfl]
    (repeat' split at hs)<;>simp_all
 all_goals exact absurd rfl hc
def Unhurt (r:Nat×Place) (g h:Heap):Prop :=
 match r.2 with
 | none=>h.get r.1=g.get r.1
 | some (n,sz,i,o)=>loadP h n (.ptr r.1 sz i o)=loadP g n (.ptr r.1 sz i o)
theorem Unhurt.of_get {r:Nat×Place} {g h:Heap} (e:h.get r.1=g.get r.1):Unhurt r g h:=by
 unfold Unhurt
 split
 ·exact e
 ·simp only [loadP,e]
theorem Unhurt.trans {r:Nat×Place} {a b c:Heap} (h1:Unhurt r a b) (h2:Unhurt r b c):Unhurt r a c:=by
 unfold Unhurt at h1 h2 ⊢
 split<;>simp_all
theorem stepOp_growsM {d:DOp} {h h2:Heap} {env:Env} {v:DV} {h':Heap} (hg:∀r,mark env d=some r→(∃ o,h.get r.1=some o)→Unhurt r h h2) (hd:touches d=false) (hs:stepOp h env d=some (v,h')):stepOp h2 env d=some (v,h2):=by
 by_cases hld:∃ n a,d=.load n a
 ·obtain ⟨n,a,rfl⟩:=hld
  simp only [stepOp]at hs ⊢
  split at hs
  ·rename_i v' hl
   cases hs
   have:loadP h2 n (a.eval env)=some v:=by
    cases hv:a.eval env<;>rw [hv]at hl<;>try (simp only [loadP]at hl;cases hl;done)
    ·rename_i id sz i o
     have hobj:∃ ob,h.get id=some ob:=by
      unfold loadP at hl
      simp only at hl
      split at hl
      ·exact ⟨_,by assumption⟩
      ·cases hl
     have:=hg (id,some (n,sz,i,o)) (by simp only [mark,hv]) hobj
     unfold Unhurt at this
     simp only at this
     rw [this];exact hl
    ·exact hl
   rw [this]
  ·cases hs
 ·refine stepOp_growsT (fun id ob htgt hget _=>?_) hd hs
  have hm:mark env d=some (id,none):=by
   cases d<;>simp only [mark,htgt,Option.map_some]
   exact absurd ⟨_,_,rfl⟩ hld
  have:=hg _ hm ⟨ob,hget⟩
  unfold Unhurt at this
  simp only at this
  rw [this];exact hget
theorem stepOp_grows {d:DOp} {h h2:Heap} {env:Env} {v:DV} {h':Heap} (hg:Grows h h2) (hd:touches d=false) (hs:stepOp h env d=some (v,h')):stepOp h2 env d=some (v,h2) :=
 stepOp_growsT (hg.t d env) hd hs
structure Keeps (h h':Heap):Prop where
 lim:h'.lim=h.lim
 n:h.n≤h'.n
 get:∀id,id<h.lim→h'.get id=h.get id
theorem Keeps.refl (h:Heap):Keeps h h:=⟨rfl,Nat.le_refl _,fun _ _=>rfl⟩
theorem Keeps.trans {a b c:Heap} (h:Keeps a b) (g:Keeps b c):Keeps a c :=
 ⟨g.lim.trans h.lim,Nat.le_trans h.n g.n,fun id hi=>(g.get id (by rw [h.lim];exact hi)).trans (h.get id hi)⟩
theorem Keeps.push {h:Heap} (hl:h.lim≤h.n) (o:DO):Keeps h (h.push o):=⟨rfl,Nat.le_succ _,fun id hi=>get_push_old (by omega)⟩
theorem Keeps.set {h:Heap} {id:Nat} {ob:DO} (hg:h.get id=some ob) (hl:h.lim≤id) (o:DO):Keeps h (h.set id o) :=
 ⟨rfl,Nat.le_refl _,fun k hk=>get_set_other (get_lt hg) (by omega)⟩
theorem storeP_keeps {h h':Heap} {n:Nat} {a x:DV} (hs:storeP h n a x=some h'):Keeps h h':=by
 unfold storeP at hs
 split at hs
 ·split at hs
  ·rename_i hx
   split at hs
   ·rename_i hc
    split at hs
    ·split at hs
     ·cases hs;exact .set hx hc.2.1 _
     ·cases hs
    ·cases hs
   ·cases hs
  ·cases hs
 ·cases hs
theorem appendD_keeps {h h':Heap} (hl:h.lim≤h.n) {ety sz bytes:Nat} {s v:DV} {ys:List DV} (hs:appendD h ety sz bytes s ys=some (v,h')):Keeps h h':=by
 unfold appendD at hs
 split at hs
 ·split at hs
  ·cases hs;exact .refl _
  ·split at hs
   ·cases hs;exact .push hl _
   ·cases hs
 ·split at hs
  ·cases hs;exact .refl _
  ·split at hs
   ·rename_i hx
    split at hs
    ·split at hs
     ·split at hs
      ·rename_i hlim;cases hs;exact .set hx hlim _
      ·cases hs
     ·split at hs
      ·cases hs;exact .push hl _
      ·split at hs
       ·rename_i hlim;cases hs;exact (Keeps.set hx hlim _).trans (.push (by exact hl) _)
       ·cases hs
    ·cases hs
   ·cases hs
 ·cases hs
theorem copyD_keeps {h h':Heap} {sz:Nat} {d v:DV} {ys:List DV} (hs:copyD h sz d ys=some (v,h')):Keeps h h':=by
 unfold copyD at hs
 split at hs
 ·cases hs;exact .refl _
 ·split at hs
  ·rename_i hx
   split at hs
   ·rename_i hc;cases hs;exact .set hx hc.2.2.2 _
   ·cases hs
  ·cases hs
 ·cases hs
theorem stepOp_keeps {d:DOp} {h h':Heap} (hl:h.lim≤h.n) {env:Env} {v:DV} (hs:stepOp h env d=some (v,h')):Keeps h h':=by
 by_cases ht:touches d=false
 ·have hgr:Grows h h:=fun _ _ hx _=>hx
  have:=stepOp_grows hgr ht hs
  rw [hs]at this
  cases this
  exact .refl _
 cases d<;>simp only [touches,not_true_eq_false]at ht<;>simp only [stepOp]at hs
 case alloc=>cases hs;exact .push hl _
 case box=>split at hs<;>cases hs;exact .push hl _
 case buildSlice=>split at hs<;>cases hs;exact .push hl _
 case store =>
  split at hs
  ·rename_i h2 hst;cases hs;exact storeP_keeps hst
  ·cases hs
 case append =>
  split at hs
  ·exact appendD_keeps hl hs
  ·cases hs
 case appendZ =>
  split at hs
  ·split at hs
   ·exact appendD_keeps hl hs
   ·cases hs
  ·cases hs
 case copy =>
  split at hs
  ·exact copyD_keeps hs
  ·cases hs
 case clear =>
  split at hs
  ·cases hs;exact .refl _
  ·cases hs;exact .refl _
  ·split at hs
   ·cases hs;exact .refl _
   ·split at hs
    ·rename_i hcp;cases hs;exact copyD_keeps hcp
    ·cases hs
  ·cases hs
 case makeSlice =>
  split at hs
  ·split at hs
   ·cases hs;exact .push hl _
   ·cases hs
  ·cases hs
 case makeMap=>cases hs;exact .push hl _
 case mapUpdate =>
  split at hs
  ·split at hs
   ·rename_i hx
    split at hs
    ·rename_i hc
     split at hs
     ·cases hs;exact .set hx hc.1 _
     ·cases hs;exact .set hx hc.1 _
     ·cases hs
    ·cases hs
   ·cases hs
  ·cases hs
 case delete =>
  split at hs
  ·split at hs
   ·rename_i hx
    split at hs
    ·rename_i hc
     split at hs
     ·cases hs;exact .set hx hc.1 _
     ·cases hs;exact .set hx hc.1 _
     ·cases hs
    ·cases hs
   ·cases hs
  ·cases hs
 case appendS =>
  split at hs
  ·exact appendD_keeps hl hs
  ·cases hs
 case range=>cases hs
 case next=>cases hs
 case entry=>cases hs
 case bytesStr =>
  repeat' (split at hs)
  all_goals first|cases hs;done|(cases hs;exact .refl _)
 case call=>cases hs
 all_goals exact absurd trivial ht
end Go.Dm
/-
Part 18 of "Dm": runs leave alone what lies below the limit.
-/
namespace Go.Dm
abbrev CallF:=Nat→List DV→Heap→Option (DV×Heap)
def CallKeeps (call:CallF):Prop:=∀f args h v h',h.lim≤h.n→call f args h=some (v,h')→Keeps h h'
theorem Keeps.lim_le {h h':Heap} (k:Keeps h h') (hl:h.lim≤h.n):h'.lim≤h'.n:=by rw [k.lim];exact Nat.le_trans hl k.n
theorem oneOp_keeps {call:CallF} (hc:CallKeeps call) {d:DOp} {env:Env} {h h':Heap} {v:DV} (hl:h.lim≤h.n) (hs:oneOp call d env h=some (v,h')):Keeps h h':=by
 unfold oneOp at hs
 split at hs
 ·split at hs
  ·exact hc _ _ _ _ _ hl hs
  ·cases hs
 ·exact stepOp_keeps hl hs
theorem runOps_keeps {call:CallF} (hc:CallKeeps call):∀(ops:List DOper) (env env':Env) (h h':Heap),h.lim≤h.n→runOps call ops env h=some (env',h')→Keeps h h':=by
 intro ops
 induction ops with
 | nil=>intro env env' h h' _ hs;cases hs;exact .refl _
 | cons o r ih =>
  intro env env' h h' hl hs
  simp only [runOps]at hs
  split at hs
  ·split at hs
   ·rename_i v h1 h2
    have k:=oneOp_keeps hc hl h2
    exact k.trans (ih _ _ _ _ (k.lim_le hl) hs)
   ·cases hs
  ·exact ih _ _ _ _ hl hs
  ·cases hs
theorem heapOp_keeps {call:CallF} (hc:CallKeeps call) {l:Nat} {d:DOp} {env:Env} {h h':Heap} {v:DV} (hl:h.lim≤h.n) (hln:l≤h.n) (hs:heapOp call l d env h=some (v,h')) :
  Keeps h h'∧∀id,id<l→h'.get id=h.get id:=by
 unfold heapOp at hs
 split at hs
 ·rename_i v1 h1 h2
  cases hs
  have k:=oneOp_keeps hc (h:={h with lim:=max l h.lim}) (Nat.max_le.2 ⟨hln,hl⟩) h2
  exact ⟨⟨rfl,k.n,fun id hi=>k.get id (Nat.lt_of_lt_of_le hi (Nat.le_max_right _ _))⟩,fun id hi=>k.get id (Nat.lt_of_lt_of_le hi (Nat.le_max_left _ _))⟩
 ·cases hs
theorem createOp_keeps {call:CallF} (hc:CallKeeps call) {l r:Nat} {L L':DLog} {d:DOp} {env:Env} {h h':Heap} {v:DV} (hl:h.lim≤h.n) (hln:l≤h.n) (hs:createOp call l r L d env h=some (v,h',L')):Keeps h h':=by
 unfold createOp at hs
 split at hs
 ·split at hs
  ·rename_i h2;cases hs;exact stepOp_keeps hl h2
  ·cases hs
 ·split at hs
  ·unfold pokeCall at hs
   split at hs
   ·split at hs
    ·rename_i h2
     split at hs
     ·cases hs;exact oneOp_keeps hc hl h2
     ·cases hs
    ·cases hs
   ·cases hs
  ·split at hs
   ·rename_i h2;cases hs;exact (heapOp_keeps hc hl hln h2).1
   ·cases hs
theorem snapAt_mem {hs:List Heap} {k:Nat} {h:Heap} (he:snapAt hs k=some h):h∈hs:=by
 unfold snapAt at he
 split at he
 ·exact List.mem_of_getElem? he
 ·cases he
def Stack:List Heap→Prop
 | []=>True
 | h::hs=>h.lim≤h.n∧(∀g,g∈hs→Keeps g h)∧Stack hs
theorem runDraw_keeps {call:CallF} (hc:CallKeeps call):∀(ops:List DOper) (env env':Env) (hs:List Heap) (L:DLog) (h':Heap),Stack hs→runDraw call ops env hs L=some (env',h')→∀g,g∈hs→Keeps g h':=by
 intro ops
 induction ops with
 | nil =>
  intro env env' hs L h' hst he g hg
  cases hs with
  | nil=>cases he
  | cons h hs =>
   cases he
   rcases List.mem_cons.1 hg with rfl|hg
   ·exact .refl _
   ·exact hst.2.1 g hg
 | cons o r ih =>
  intro env env' hs L h' hst he g hg
  cases hs with
  | nil=>cases he
  | cons h hs =>
   have next:∀h1,Keeps h h1→Stack (h1::h::hs):=fun h1 k=>⟨k.lim_le hst.1,fun g hg=>by
    rcases List.mem_cons.1 hg with rfl|hg
    ·exact k
    ·exact (hst.2.1 g hg).trans k,hst⟩
   have below:∀g,g∈h::hs→g.n≤h.n:=fun g hg=>by
    rcases List.mem_cons.1 hg with rfl|hg
    ·exact Nat.le_refl _
    ·exact (hst.2.1 g hg).n
   simp only [runDraw]at he
   split at he
   ·cases he
   ·split at he
    ·split at he
     ·split at he
      ·split at he
       ·exact ih _ _ _ _ _ hst he g hg
       ·cases he
      ·cases he
     ·cases he
    ·split at he
     ·rename_i v h1 h2
      exact ih _ _ _ _ _ (next h1 (oneOp_keeps hc hst.1 h2)) he g (List.mem_cons_of_mem _ hg)
     ·cases he
    ·split at he
     ·rename_i h0 hs0
      split at he
      ·rename_i v h1 L1 h2
       exact ih _ _ _ _ _ (next h1 (createOp_keeps hc hst.1 (below h0 (snapAt_mem hs0)) h2)) he g (List.mem_cons_of_mem _ hg)
      ·cases he
     ·cases he
   ·split at he
    ·exact ih _ _ _ _ _ hst he g hg
    ·exact ih _ _ _ _ _ (next h (.refl _)) he g (List.mem_cons_of_mem _ hg)
def RunKeeps (run:DCode→Env→Heap→Res):Prop:=∀c env h e env' h',h.lim≤h.n→run c env h=.ok e env' h'→Keeps h h'
def HooksKeep (D:DProg):Prop:=∀f hk,D.hook f=some hk→∀h args v h',h.lim≤h.n→hk h args=some (v,h')→Keeps h h'
theorem freeze_keeps {h h':Heap} {d d':DV} (hf:freeze h d=some (d',h')):Keeps h h':=by
 cases d with
 | sl id sz off len =>
  simp only [freeze]at hf
  split at hf
  ·rename_i hg
   split at hf
   ·rename_i hcond;cases hf;exact Keeps.set hg hcond.2.1 _
   ·cases hf
  ·cases hf
 | _=>simp only [freeze]at hf;cases hf;exact .refl _
theorem mapH_keeps {f:Heap→DV→Option (DV×Heap)} (hk:∀{h h':Heap} {d d':DV},f h d=some (d',h')→Keeps h h'):∀{ds ds':List DV} {h h':Heap},mapH f h ds=some (ds',h')→Keeps h h':=by
 intro ds
 induction ds with
 | nil=>intro ds' h h' he;simp only [mapH]at he;cases he;exact .refl _
 | cons d r ih =>
  intro ds' h h' he
  simp only [mapH]at he
  split at he
  ·rename_i e1
   split at he
   ·rename_i e2;cases he;exact (hk e1).trans (ih e2)
   ·cases he
  ·cases he
theorem freezeA_eq {h:Heap} {d:DV} (hd:∀cs,d≠.agg cs):freezeA h d=freeze h d:=by
 cases d<;>first|rfl|exact absurd rfl (hd _)
theorem freezeA_keeps {h h':Heap} {d d':DV} (hf:freezeA h d=some (d',h')):Keeps h h':=by
 cases d with
 | agg cs =>
  simp only [freezeA]at hf
  split at hf
  ·rename_i e1;cases hf;exact mapH_keeps (fun e=>freeze_keeps e) e1
  ·cases hf
 | _=>rw [freezeA_eq (by intro cs e;cases e)]at hf;exact freeze_keeps hf
theorem enter_keeps {run:DCode→Env→Heap→Res} {D:DProg} (hh:HooksKeep D) (hr:RunKeeps run):CallKeeps (enter run D):=by
 intro f args h v h' hl he
 unfold enter at he
 split at he
 ·rename_i hk hk';exact hh _ _ hk' _ _ _ _ hl he
 ·split at he
  ·cases he
  ·rename_i df hdf
   have go:∀args (h h':Heap) v,h.lim≤h.n→(match run df.body (args++List.replicate (df.ntmps-args.length) undefD) h with
     | .ok (.exit _) _ _=>none
     | .ok _ env h'=>match resultsOf h' env df.results with
      | some v=>some (v,h')
      | none=>none
     | .fail=>none)=some (v,h')→Keeps h h':=by
    intro args h h' v hl he
    split at he
    ·cases he
    ·rename_i h2
     split at he
     ·cases he;exact hr _ _ _ _ _ _ hl h2
     ·cases he
    ·cases he
   simp only at he
   split at he
   ·exact go _ _ _ _ hl he
   ·split at he
    ·rename_i v1 h1 h2
     cases he
     have k:=go _ {h with lim:=h.n} _ _ (Nat.le_refl _) h2
     exact ⟨rfl,k.n,fun id hi=>k.get id (Nat.lt_of_lt_of_le hi hl)⟩
    ·cases he
   ·split at he
    ·split at he
     ·split at he
      ·split at he
       ·cases he;exact .refl _
       ·cases he
      ·cases he
     ·cases he
    ·cases he
   ·split at he
    ·split at he
     ·rename_i hgid
      split at he
      ·rename_i hcond
       split at he
       ·split at he
        ·cases he
         exact (Keeps.set hgid hcond.2 _).trans (.push (by exact hl) _)
        ·cases he
       ·cases he
      ·cases he
     ·exact go _ _ _ _ hl he
    ·exact go _ _ _ _ hl he
   ·split at he
    ·rename_i as h1 ea
     split at he
     ·split at he
      ·split at he
       ·split at he
        ·cases he;exact mapH_keeps (fun e=>freezeA_keeps e) ea
        ·cases he
       ·cases he
      ·cases he
     ·cases he
    ·cases he
theorem rounds_keeps {call:CallF} {run:DCode→Env→Heap→Res} (hc:CallKeeps call) (hr:RunKeeps run) {it nx ok en X Y p:Nat} {ops:List DOper} {b:DCode}:∀(l:List (DV×DV)) {env:Env} {h:Heap} {e:Ex} {env':Env} {h':Heap},h.lim≤h.n →
  rounds call run it nx ok en X Y p ops b l env h=.ok e env' h'→Keeps h h':=by
 intro l
 induction l with
 | nil =>
  intro env h e env' h' hl he
  simp only [rounds]at he
  split at he
  ·split at he
   ·cases he;exact .refl _
   ·cases he
  ·cases he
 | cons x r ih =>
  intro env h e env' h' hl he
  obtain ⟨k,v⟩:=x
  simp only [rounds]at he
  split at he
  ·split at he
   ·split at he
    ·rename_i env1 h1 h2
     have k1:=runOps_keeps hc _ _ _ _ _ hl h2
     split at he
     ·rename_i h3
      have k2:=k1.trans (hr _ _ _ _ _ _ (k1.lim_le hl) h3)
      exact k2.trans (ih (k2.lim_le hl) he)
     ·rename_i h3
      have k2:=k1.trans (hr _ _ _ _ _ _ (k1.lim_le hl) h3)
      split at he
      ·exact k2.trans (ih (k2.lim_le hl) he)
      ·split at he
       ·cases he;exact k2
       ·cases he;exact k2
     ·exact k1.trans (hr _ _ _ _ _ _ (k1.lim_le hl) he)
    ·cases he
   ·cases he
  ·cases he
theorem get_drop {h1:Heap} {n lim id:Nat} (hn:n≤h1.n) (hid:id<n):({objs:=h1.objs.drop (h1.n-n),n:=n,lim:=lim}:Heap).get id=h1.get id:=by
 unfold Heap.get
 simp only [hid,if_true]
 rw [if_pos (by omega),List.getElem?_drop]
 congr 1
 omega
theorem shut_get {h:Heap} {m id:Nat} {es:List (DV×DV)} (hg:h.get m=some (.mp es)) (hid:id<h.n) (hne:id≠m):(shutW h m).get id=h.get id:=by
 unfold shutW
 rw [get_push_old (by exact hid),get_set_other (get_lt hg) hne]
theorem entriesW_inv {h:Heap} {v:DV} {m:Nat} {es:List (DV×DV)} (he:entriesW h v=some (m,es)):v=.map m∧h.get m=some (.mp es):=by
 unfold entriesW at he
 split at he
 ·split at he
  ·rename_i hg;cases he;exact ⟨rfl,hg⟩
  ·cases he
 ·cases he
theorem walkIn_keeps {call:CallF} {run:DCode→Env→Heap→Res} (hc:CallKeeps call) (hr:RunKeeps run) {it nx ok en X Y m:Nat} {kl:List Nat} {ops:List DOper} {b:DCode} {es p:List (DV×DV)} {env:Env} {h:Heap} {e:Ex} {env':Env} {h':Heap} (hl:h.lim≤h.n)
  (hg:h.get m=some (.mp es)) (he:walkIn call run it nx ok en X Y kl ops b m es env h p=.ok e env' h'):Keeps h h':=by
 unfold walkIn closeW at he
 split at he
 ·rename_i e1 env1 h1 h2
  split at he
  ·rename_i hcond
   cases he
   simp only [Bool.and_eq_true,Nat.ble_eq]at hcond
   have hlim:(shutW h m).lim≤(shutW h m).n:=Nat.le_succ_of_le hl
   have k:=rounds_keeps hc hr _ hlim h2
   refine ⟨rfl,Nat.le_refl _,fun id hid=>?_⟩
   have hid':id<h.n:=Nat.lt_of_lt_of_le hid hl
   by_cases hne:id=m
   ·subst hne
    rw [hg]
    unfold Heap.get Heap.set
    simp only [hid',if_true]
    rw [List.getElem?_set]
    have hlen:=k.n
    have hn1:(shutW h id).n=h.n+1:=rfl
    simp only [if_true]
    split
    ·rfl
    ·rename_i hlt
     exfalso
     have hk:=k.get id hid
     have:(shutW h id).get id=some .dead:=by
      unfold shutW
      rw [get_push_old (by exact hid')]
      unfold Heap.get at hg ⊢
      simp only [Heap.set,hid',if_true]at hg ⊢
      have:=(List.getElem?_eq_some_iff.1 hg).1
      simp [List.getElem?_set,this]
     rw [this]at hk
     have hk2:({objs:=h1.objs.drop (h1.n-h.n),n:=h.n,lim:=h.lim}:Heap).get id=some .dead:=by rw [get_drop hcond.1 hid'];exact hk
     unfold Heap.get at hk2
     simp only [hid',if_true]at hk2
     exact hlt (List.getElem?_eq_some_iff.1 hk2).1
   ·exact (get_set_other (h:={objs:=h1.objs.drop (h1.n-h.n),n:=h.n,lim:=h.lim}) (show m<h.n from get_lt hg) hne).trans ((get_drop hcond.1 hid').trans ((k.get id hid).trans (shut_get hg hid' hne)))
  ·cases he
 ·cases he
theorem walkR_inv {call:CallF} {run:DCode→Env→Heap→Res} {it nx ok en X Y:Nat} {kl:List Nat} {ops:List DOper} {b:DCode} {env:Env} {h:Heap} {v:DV} {e:Ex} {env':Env} {h':Heap} (he:walkR call run it nx ok en X Y kl ops b env h (entriesW h v)=.ok e env' h') :
  ∃ m es,v=.map m∧h.get m=some (.mp es)∧walkIn call run it nx ok en X Y kl ops b m es env h es=.ok e env' h'∧∀p∈perms es,eqvR e env' h' (walkIn call run it nx ok en X Y kl ops b m es env h p)=true:=by
 cases hx:entriesW h v with
 | none=>rw [hx]at he;cases he
 | some x =>
  obtain ⟨m,es⟩:=x
  rw [hx]at he
  simp only [walkR]at he
  obtain ⟨h1,h2⟩:=entriesW_inv hx
  split at he
  ·rename_i h3
   split at he
   ·rename_i h4
    cases he
    exact ⟨m,es,h1,h2,h3,fun p hp=>List.all_eq_true.1 h4 p hp⟩
   ·cases he
  ·cases he
theorem exec_keeps {D:DProg} (hh:HooksKeep D):∀n,RunKeeps (exec D n):=by
 intro n
 induction n with
 | zero=>intro c env h e env' h' _ he;cases he
 | succ n ih =>
  intro c env h e env' h' hl he
  cases c<;>simp only [exec]at he
  case skip=>cases he;exact .refl _
  case exit=>cases he;exact .refl _
  case ret=>cases he;exact .refl _
  case seq a b =>
   split at he
   ·rename_i e1 h1 h2
    have k:=ih _ _ _ _ _ _ hl h2
    exact k.trans (ih _ _ _ _ _ _ (k.lim_le hl) he)
   ·exact ih _ _ _ _ _ _ hl he
  case cond c a b =>
   split at he
   ·exact ih _ _ _ _ _ _ hl he
   ·exact ih _ _ _ _ _ _ hl he
   ·cases he
  case block id b =>
   split at he
   ·rename_i h2
    split at he
    ·cases he;exact ih _ _ _ _ _ _ hl h2
    ·cases he;exact ih _ _ _ _ _ _ hl h2
   ·exact ih _ _ _ _ _ _ hl he
  case loop b =>
   split at he
   ·rename_i e1 h1 h2
    have k:=ih _ _ _ _ _ _ hl h2
    exact k.trans (ih _ _ _ _ _ _ (k.lim_le hl) he)
   ·exact ih _ _ _ _ _ _ hl he
  case region ops =>
   split at he
   ·rename_i h2;cases he;exact runOps_keeps (enter_keeps hh ih) _ _ _ _ _ hl h2
   ·cases he
  case walk x it nx ok en X Y kl ops b =>
   obtain ⟨m,es,_,hg,h2,_⟩:=walkR_inv he
   exact walkIn_keeps (enter_keeps hh ih) ih hl hg h2
  case draw ops =>
   split at he
   ·rename_i h2;cases he;exact runDraw_keeps (enter_keeps hh ih) _ _ _ [h] _ _ (show Stack [h] from ⟨hl,(fun _ hg=>(by cases hg)),trivial⟩) h2 _ (List.mem_singleton.2 rfl)
   ·cases he
end Go.Dm
/-
Part 19 of "Dm": calls; one operation, a call or none; results.
-/
namespace Go.Dm
def CallPost (h:Heap) (c:Ctx) (h':Heap) (d:DV):Ending→World→Prop:=fun e w'=>∃ v,e=.returned v∧Post h c h' w' d v
def CallOk (P:Program) (f:FuncId) (vals:Array Value) (h:Heap) (c:Ctx) (h':Heap) (d:DV):Prop :=
 (∃ v w',(callFunc f vals).run P c.w=.ok (.value v) w'∧Post h c h' w' d v) ∨
 (∃ f' vals' ,(callFunc f vals).run P c.w=.ok (.enter f' vals') c.w∧Calls P f' vals' c.w (CallPost h c h' d))
def CallSound (P:Program) (call:CallF):Prop:=∀f args h d h' c vals,call f args h=some (d,h')→Rel h c→VRs c args vals→CallOk P f vals.toArray h c h' d
def OpOk (P:Program) (o:Oper) (a:Act) (h:Heap) (c:Ctx) (h':Heap) (d:DV):Prop :=
 ∀K Q,(∀v w',Post h c h' w' d v→K (a.put o.dst v) w')→o.wp P a c.w K Q
theorem Steps1.opOk {P:Program} {o:Oper} {a:Act} {h h':Heap} {c:Ctx} {d:DV} (hs:Steps1 P h c o a h' d):OpOk P o a h c h' d:=by
 obtain ⟨nx,v,w',hr,hn,hp⟩:=hs
 intro K Q hK
 unfold Oper.wp
 rw [hr]
 rcases hn with rfl|⟨rfl,rfl⟩
 ·exact hK v w' hp
 ·exact hK _ w' hp
theorem CallOk.opOk {P:Program} {o:Oper} {a:Act} {h h':Heap} {c:Ctx} {d:DV} {f:FuncId} {vals:Array Value} (hc:CallOk P f vals h c h' d)
  (he:(execOp a.eval o).run P c.w=(callFunc f vals).run P c.w):OpOk P o a h c h' d:=by
 intro K Q hK
 unfold Oper.wp
 rw [he]
 rcases hc with ⟨v,w',hr,hp⟩|⟨f',vals',hr,hcalls⟩
 ·rw [hr];exact hK v w' hp
 ·rw [hr]
  exact Calls.mono hcalls fun e w' hp=>by
   obtain ⟨v,rfl,hp⟩:=hp
   exact hK v w' hp
section
variable {P:Program} {h h':Heap} {c:Ctx} {env:Env} {a:Act} {o:Oper} {r:DV}
theorem opds_VRs' {as:List Operand} {ds:List Opd} (hm:as.mapM opd=some ds) (hE:EnvR c env a):VRs c (ds.map (Opd.eval env)) (as.map a.eval):=by
 have hl:=mapM_length _ _ _ hm
 refine ⟨by simp [hl],fun i h1 h2=>?_⟩
 simp only [List.length_map]at h1 h2
 simp only [List.getElem_map]
 exact opd_VR (mapM_get _ _ _ hm i h2 h1) hE
theorem VRs.app {ds es:List DV} {vs us:List Value} (h1:VRs c ds vs) (h2:VRs c es us):VRs c (ds++es) (vs++us):=by
 refine ⟨by simp [h1.1,h2.1],fun i a1 a2=>?_⟩
 by_cases hi:i<ds.length
 ·have hi':i<vs.length:=by rw [←h1.1];exact hi
  rw [List.getElem_append_left hi,List.getElem_append_left hi']
  exact h1.2 i hi hi'
 ·have hi':¬i<vs.length:=by rw [←h1.1];exact hi
  rw [List.getElem_append_right (Nat.le_of_not_lt hi),List.getElem_append_right (Nat.le_of_not_lt hi')]
  have:i-ds.length=i-vs.length:=by rw [h1.1]
  have b1:i-ds.length<es.length:=by simp only [List.length_append]at a1;omega
  have b2:i-vs.length<us.length:=by simp only [List.length_append]at a2;omega
  have:=h2.2 (i-ds.length) b1 (by rw [h1.1];exact b2)
  simpa only [h1.1] using this
theorem exec_call {f:Operand} {args:Array Operand} {ats:Array TypeId} {g:FuncId} {cap:List Value} (ho:o.op=.call {callee:=.value f,args:=args,argTypes:=ats})
  (hf:a.eval f=.func (.func g) #[] cap.toArray) :
  (execOp a.eval o).run P c.w=(callFunc g (args.toList.map a.eval++cap).toArray).run P c.w:=by
 have e:(args.toList.map a.eval++cap).toArray=args.map a.eval++cap.toArray:=by apply Array.ext';simp
 rw [e]
 simp [execOp,ho,Go.resolve,Deferred.ofValue,hf,invoke]
theorem compOp_call {f':Opd} {as':List Opd} (hc:compOp P o=some (.call f' as')) :
  ∃ f args ats,o.op=.call {callee:=.value f,args:=args,argTypes:=ats}∧opd f=some f'∧args.toList.mapM opd=some as':=by
 unfold compOp at hc
 split at hc
 case h_32 f args ats ho =>
  split at hc
  ·rename_i g as h1 h2;cases hc;exact ⟨f,args,ats,ho,h1,h2⟩
  ·cases hc
 all_goals ((repeat' split at hc)<;>first|(cases hc;done)|(simp at hc;done))
theorem one_sound {call:CallF} (hcall:CallSound P call) {d:DOp} (hc:compOp P o=some d) (hR:Rel h c) (hE:EnvR c env a) (hs:oneOp call d env h=some (r,h')):OpOk P o a h c h' r:=by
 by_cases hn:∀f as,d≠.call f as
 ·have hs':stepOp h env d=some (r,h'):=by
   unfold oneOp at hs
   split at hs
   ·exact absurd rfl (hn _ _)
   ·exact hs
  exact (step_sound hc hn hR hE hs').opOk
 ·have:∃ f as,d=.call f as:=by
   cases d<;>first|exact ⟨_,_,rfl⟩|exact absurd (fun _ _=>by simp) hn
  obtain ⟨f',as',rfl⟩:=this
  obtain ⟨f,args,ats,ho,hf,has⟩:=compOp_call hc
  simp only [oneOp]at hs
  split at hs
  ·rename_i g cap hg
   have vf:=opd_VR hf hE
   rw [hg]at vf
   obtain ⟨vs,e1,e2,e3⟩:=vf.func_inv
   exact (hcall g _ h r h' c _ hs hR ((opds_VRs' has hE).app ⟨e2,e3⟩)).opOk (exec_call ho e1)
  ·cases hs
end
end Go.Dm
/-
Part 20 of "Dm": regions in the text's order; guards; results.
-/
namespace Go.Dm
def St (c:Ctx) (h':Heap) (env':Env) (a':Act) (w':World):Prop :=
 ∃ ρ',Rel h' (c.next w' ρ' h')∧CtxLe c (c.next w' ρ' h')∧EnvR (c.next w' ρ' h') env' a'
theorem next_next (c:Ctx) (w1 w2:World) (ρ1 ρ2:Nat→Option (Nat×Nat)) (h1 h2:Heap):(c.next w1 ρ1 h1).next w2 ρ2 h2=c.next w2 ρ2 h2:=rfl
section
variable {P:Program} {h h':Heap} {c:Ctx} {env:Env} {a:Act} {o:Oper} {r:DV}
theorem St.trans {h1:Heap} {w1:World} {ρ1:Nat→Option (Nat×Nat)} (hle:CtxLe c (c.next w1 ρ1 h1)) {h2:Heap} {env2:Env} {a2:Act} {w2:World} (hs:St (c.next w1 ρ1 h1) h2 env2 a2 w2):St c h2 env2 a2 w2:=by
 obtain ⟨ρ2,k1,k2,k3⟩:=hs
 exact ⟨ρ2,k1,hle.trans k2,k3⟩
theorem EnvR.mono {c c':Ctx} (hE:EnvR c env a) (hle:CtxLe c c'):EnvR c' env a:=⟨hE.size,hE.defers,fun i hi=>(hE.val i hi).mono hle⟩
theorem EnvR.put (hE:EnvR c env a) {v:Value} {d:DV} (hv:VR c d v) (dst:Option Nat):EnvR c (Dm.put env dst d) (a.put dst v):=by
 cases dst with
 | none=>exact hE
 | some t =>
  refine ⟨by simp [Dm.put,Act.put,hE.size],hE.defers,fun i hi=>?_⟩
  simp only [Dm.put,List.length_set]at hi
  have hi':i<a.tmps.size:=by rw [hE.size];exact hi
  have:=hE.val i hi
  simp only [Array.getD_eq_getD_getElem?]at this
  simp only [Dm.put,Act.put,List.getElem_set,Array.getD_eq_getD_getElem?,Array.getElem?_setIfInBounds]
  by_cases e:t=i
  ·subst e;simpa [hi'] using hv
  ·simpa [e] using this
theorem EnvR.get (hE:EnvR c env a) (t:Nat):VR c ((env[t]?).getD .unk) (a.tmps.getD t undef):=by
 by_cases ht:t<env.length
 ·rw [List.getElem?_eq_getElem ht];exact hE.val t ht
 ·rw [List.getElem?_eq_none (Nat.le_of_not_lt ht)];exact .unk _
theorem wanted_sound {ops:List Oper} {g:Option (Nat×Bool)} (hg:guardT ops o.guard=some g) (hE:EnvR c env a) {b:Bool} (hw:wantedD env g=some b) :
  Region.wanted o (yielded ops.toArray a.tmps)=b:=by
 unfold guardT at hg
 split at hg
 ·rename_i hn
  cases hg
  simp only [wantedD]at hw
  cases hw
  simp [Region.wanted,hn]
 ·rename_i j want hn
  split at hg
  ·rename_i og hog
   split at hg
   ·rename_i t ht
    cases hg
    simp only [wantedD]at hw
    split at hw
    ·rename_i b' hb
     cases hw
     obtain ⟨hlt,hb'⟩:=List.getElem?_eq_some_iff.1 hb
     have hv:=hE.val t hlt
     rw [hb']at hv
     have hv:=hv.bool_inv
     have hlt':t<a.tmps.size:=by rw [hE.size];exact hlt
     simp [hlt']at hv
     simp [Region.wanted,hn,yielded,hog,ht,hlt',hv]
    ·rename_i vs hb
     cases hw
     obtain ⟨hlt,hb'⟩:=List.getElem?_eq_some_iff.1 hb
     have hv:=hE.val t hlt
     rw [hb']at hv
     obtain ⟨us,hv,_⟩:=hv.tup_inv
     have hlt':t<a.tmps.size:=by rw [hE.size];exact hlt
     simp [hlt']at hv
     simp [Region.wanted,hn,yielded,hog,ht,hlt',hv]
    ·cases hw
   ·cases hg
  ·cases hg
theorem VR.undef:VR c undefD Go.undef:=.tup (ds:=[]) (vs:=[]) rfl (fun i h1 _=>absurd h1 (by simp))
theorem compOper_inv {ops:List Oper} {k:OKind} {s:Nat} {d:DOper} (hc:compOper P ops k s o=some d) :
  compOp P o=some d.op∧guardT ops o.guard=some d.guard∧d.dst=o.dst∧d.kind=k∧d.snap=s:=by
 unfold compOper at hc
 split at hc
 ·rename_i x g h1 h2;cases hc;exact ⟨h1,h2,rfl,rfl,rfl⟩
 ·cases hc
theorem ops_sound_app {call:CallF} (hcall:CallSound P call) {ops l2:List Oper} {Q:Exit→Act→World→Prop}:∀(l:List Oper) (ds:List DOper) (h:Heap) (c:Ctx) (env:Env) (a:Act) (env':Env) (h':Heap),
  l.mapM (compOper P ops .write 0)=some ds→runOps call ds env h=some (env',h')→Rel h c→EnvR c env a→(∀a' w',St c h' env' a' w'→wpList P ops.toArray Q l2 a' w')→wpList P ops.toArray Q (l++l2) a c.w:=by
 intro l
 induction l with
 | nil =>
  intro ds h c env a env' h' hm hr hR hE hQ
  simp only [List.mapM_nil,Option.pure_def,Option.some.injEq]at hm
  subst hm
  cases hr
  exact hQ a c.w ⟨c.ρ,by rw [hR.same];exact ⟨hR,.refl c,hE⟩⟩
 | cons o l ih =>
  intro ds h c env a env' h' hm hr hR hE hQ
  simp only [List.mapM_cons,Option.pure_def,Option.bind_eq_bind,Option.bind_eq_some_iff]at hm
  obtain ⟨d,hd,ds',hds,hm⟩:=hm
  cases hm
  obtain ⟨h1,h2,h3,_,_⟩:=compOper_inv hd
  refine wpList_step fun K hK=>?_
  simp only [runOps]at hr
  split at hr
  ·rename_i hw
   rw [if_pos (wanted_sound h2 hE hw)]
   split at hr
   ·rename_i v h1' hone
    refine one_sound hcall h1 hR hE hone K Q fun u w' hp=>?_
    obtain ⟨ρ',k1,k2,k3⟩:=hp
    refine hK _ _ (ih ds' h1' (c.next w' ρ' h1') _ (a.put o.dst u) env' h' hds hr k1 ?_ fun a' w'' hst=>hQ _ _ (hst.trans k2))
    rw [←h3]
    exact (hE.mono k2).put k3 _
   ·cases hr
  ·rename_i hw
   rw [if_neg (by rw [wanted_sound h2 hE hw];simp)]
   refine hK _ _ (ih ds' h c _ (a.put o.dst Go.undef) env' h' hds hr hR ?_ hQ)
   rw [←h3]
   exact hE.put .undef _
  ·cases hr
theorem ops_sound {call:CallF} (hcall:CallSound P call) {ops:List Oper} {Q:Exit→Act→World→Prop} (l:List Oper) (ds:List DOper) (h:Heap) (c:Ctx) (env:Env) (a:Act) (env':Env) (h':Heap)
  (hm:l.mapM (compOper P ops .write 0)=some ds) (hr:runOps call ds env h=some (env',h')) (hR:Rel h c) (hE:EnvR c env a) (hQ:∀a' w',St c h' env' a' w'→Q .normal a' w'):wpList P ops.toArray Q l a c.w:=by
 have:=ops_sound_app hcall (l2:=[]) l ds h c env a env' h' hm hr hR hE fun a' w' hst=>wpList_nil (hQ a' w' hst)
 rwa [List.append_nil]at this
def resSem (a:Act):ResultVar→Sem Value
 | .tmp t=>pure (a.tmps.getD t Go.undef)
 | .cell x t=>do loadVar t (←asAddr (a.tmps.getD x Go.undef))
theorem results_eq (fn:Func) (a:Act):results fn a.tmps=(fn.results.mapM (resSem a) >>= fun vs=>pure (if h:vs.size=1 then vs[0] else .tuple vs)):=by
 unfold results
 congr 1
theorem res_sound {rv:ResultVar} {dr:DRes} (hc:compRes P rv=some dr) (hR:Rel h c) (hE:EnvR c env a) {d:DV} (hs:resultOf h env dr=some d) :
  ∃ v,(resSem a rv).run P c.w=.ok v c.w∧VR c d v:=by
 unfold compRes at hc
 split at hc
 ·rename_i t
  cases hc
  simp only [resultOf,Option.some.injEq]at hs
  subst hs
  exact ⟨_,by simp only [resSem,Sem.run_pure],hE.get t⟩
 ·rename_i x t
  split at hc
  ·rename_i n hn
   cases hc
   simp only [resultOf]at hs
   obtain ⟨b,o,off,cs,e1,e2,e3⟩:=loadP_view hR (hE.get x) hs
   obtain ⟨u,f1,f2⟩:=pick_sound (P:=P) e2 e3 hn
   exact ⟨u,by simp only [resSem,e1,Sem.run_bind,asAddr,Sem.run_pure,Result.andThen_ok];exact f1,f2⟩
  ·cases hc
theorem mapM_run {α:Type} (f:α→Sem Value) (w:World):∀(l:List α) (vs:List Value),l.length=vs.length→(∀i (h1:i<l.length) (h2:i<vs.length),(f l[i]).run P w=.ok vs[i] w)→(l.mapM f).run P w=.ok vs w:=by
 intro l
 induction l with
 | nil=>intro vs hl _;cases vs with|nil=>simp|cons=>simp at hl
 | cons x l ih =>
  intro vs hl hv
  cases vs with
  | nil=>simp at hl
  | cons v vs =>
   have h0:=hv 0 (by simp) (by simp)
   simp only [List.getElem_cons_zero]at h0
   have:=ih vs (by simpa using hl) (fun i h1 h2=>by have:=hv (i+1) (by simpa using h1) (by simpa using h2);simpa only [List.getElem_cons_succ] using this)
   simp [List.mapM_cons,h0,this]
theorem results_sound {fn:Func} {rs:List DRes} (hc:fn.results.toList.mapM (compRes P)=some rs) (hR:Rel h c) (hE:EnvR c env a) {d:DV} (hs:resultsOf h env rs=some d) :
  ∃ v,(results fn a.tmps).run P c.w=.ok v c.w∧VR c d v:=by
 have hl:=mapM_length _ _ _ hc
 have main:∀ds:List DV,rs.mapM (resultOf h env)=some ds→∃ vs:List Value,ds.length=vs.length∧(∀i (h1:i<ds.length) (h2:i<vs.length),VR c ds[i] vs[i]) ∧
   (fn.results.mapM (resSem a)).run P c.w=.ok vs.toArray c.w:=by
  intro ds hds
  have hl2:=mapM_length _ _ _ hds
  have each:∀i (hi:i<fn.results.toList.length),∃ v,(resSem a fn.results.toList[i]).run P c.w=.ok v c.w∧VR c (ds[i]'(by omega)) v :=
   fun i hi=>res_sound (mapM_get _ _ _ hc i hi (by omega)) hR hE (mapM_get _ _ _ hds i (by omega) (by omega))
  let vs:List Value:=(List.range fn.results.toList.length).map fun i=>if hi:i<fn.results.toList.length then Classical.choose (each i hi) else Go.undef
  have hvl:vs.length=fn.results.toList.length:=by simp [vs]
  have hvi:∀i (hi:i<fn.results.toList.length),vs[i]'(by omega)=Classical.choose (each i hi):=fun i hi=>by simp only [vs,List.getElem_map,List.getElem_range,dif_pos hi]
  refine ⟨vs,by omega,fun i h1 h2=>?_,?_⟩
  ·rw [hvi i (by omega)]
   exact (Classical.choose_spec (each i (by omega))).2
  ·rw [Array.mapM_eq_mapM_toList]
   have:=mapM_run (P:=P) (resSem a) c.w fn.results.toList vs hvl.symm
    (fun i h1 h2=>by rw [hvi i h1];exact (Classical.choose_spec (each i h1)).1)
   simp only [Sem.run_map,this]
   rfl
 unfold resultsOf at hs
 rw [results_eq]
 split at hs
 ·rename_i rr
  obtain ⟨vs,k1,k2,k3⟩:=main [d] (by simp [hs])
  have hv1:vs.length=1:=by rw [←k1];rfl
  refine ⟨vs[0]'(by omega),?_,k2 0 (by simp) (by omega)⟩
  simp only [Sem.run_bind,k3,Result.andThen_ok]
  simp [hv1]
 ·rename_i hne
  split at hs
  ·rename_i ds hds
   cases hs
   obtain ⟨vs,k1,k2,k3⟩:=main ds hds
   have hl2:=mapM_length _ _ _ hds
   have hv1:vs.length≠1:=by
    intro e
    have:rs.length=1:=by omega
    obtain ⟨x,hx⟩:=List.length_eq_one_iff.1 this
    exact hne x hx
   refine ⟨.tuple vs.toArray,?_,.tup k1 k2⟩
   simp only [Sem.run_bind,k3,Result.andThen_ok]
   simp [hv1]
  ·cases hs
end
end Go.Dm
/-
Part 34 of "Dm" (ahead of part 21): when two data, two objects, two heaps are the same.
-/
namespace Go.Dm
mutual
theorem DV.beq_eq:∀(a b:DV),DV.beq a b=true→a=b:=by
 intro a b h
 cases a<;>cases b<;>simp only [DV.beq,Bool.false_eq_true]at h<;>try rfl
 all_goals try simp only [Bool.and_eq_true,decide_eq_true_eq,beq_iff_eq,Nat.beq_eq]at h
 case bool=>rw [h]
 case int=>rw [h.1,h.2]
 case str=>rw [h]
 case ptr=>obtain ⟨⟨⟨h1,h2⟩,h3⟩,h4⟩:=h;rw [h1,h2,h3,h4]
 case sl=>obtain ⟨⟨⟨h1,h2⟩,h3⟩,h4⟩:=h;rw [h1,h2,h3,h4]
 case iptr=>obtain ⟨⟨h1,h2⟩,h3⟩:=h;rw [h1,h2,beqL_eq _ _ h3]
 case isl=>obtain ⟨⟨h1,h2⟩,h3⟩:=h;rw [h1,h2,beqL_eq _ _ h3]
 case map=>rw [h]
 case tok=>rw [h]
 case atl=>rw [h]
 case func=>rw [h.1,beqL_eq _ _ h.2]
 case iface=>rw [h.1,DV.beq_eq _ _ h.2]
 case agg=>rw [beqL_eq _ _ h]
 case tup=>rw [beqL_eq _ _ h]
theorem beqL_eq:∀(a b:List DV),beqL a b=true→a=b:=by
 intro a b h
 cases a<;>cases b<;>simp only [beqL,Bool.false_eq_true,Bool.and_eq_true]at h<;>try rfl
 rw [DV.beq_eq _ _ h.1,beqL_eq _ _ h.2]
end
theorem beqP_eq {p q:DV×DV} (h:beqP p q=true):p=q:=by
 simp only [beqP,Bool.and_eq_true]at h
 exact Prod.ext (DV.beq_eq _ _ h.1) (DV.beq_eq _ _ h.2)
theorem beqPs_eq:∀{a b:List (DV×DV)},beqPs a b=true→a=b:=by
 intro a
 induction a with
 | nil=>intro b h;cases b<;>simp only [beqPs,Bool.false_eq_true]at h;rfl
 | cons x r ih =>
  intro b h
  cases b<;>simp only [beqPs,Bool.false_eq_true,Bool.and_eq_true]at h
  rw [beqP_eq h.1,ih h.2]
theorem sameO_eq {a b:DO} (h:sameO a b=true):a=b:=by
 cases a<;>cases b<;>simp only [sameO,Bool.false_eq_true]at h<;>try rfl
 case arr e1 s1 x1 c1 e2 s2 x2 c2 =>
  simp only [Bool.and_eq_true,Nat.beq_eq]at h
  obtain ⟨⟨⟨h1,h2⟩,h3⟩,h4⟩:=h
  have hc:c1=c2:=by
   cases c1<;>cases c2<;>simp only [beqC,Bool.false_eq_true,Nat.beq_eq]at h3<;>try rfl
   rw [h3]
  rw [h1,h2,hc,beqL_eq _ _ h4]
 case mp x1 x2=>rw [beqPs_eq h]
theorem diffO_sound:∀(n:Nat) (a b:List DO) (id:Nat),id<n→id ∉ diffO n a b→a[n-1-id]?=b[n-1-id]?:=by
 intro n
 induction n with
 | zero=>intro a b id hid _;omega
 | succ n ih =>
  intro a b id hid hn
  cases a with
  | nil=>cases b with
   | nil=>rfl
   | cons y s=>exact absurd (List.mem_range.2 hid) hn
  | cons x r=>cases b with
   | nil=>exact absurd (List.mem_range.2 hid) hn
   | cons y s =>
    simp only [diffO]at hn
    by_cases he:id=n
    ·subst he
     have:id+1-1-id=0:=by omega
     rw [this]
     split at hn
     ·rename_i hs
      simp only [List.getElem?_cons_zero]
      rw [sameO_eq hs]
     ·exact absurd (List.mem_cons_self ..) hn
    ·have h1:n+1-1-id=(n-1-id)+1:=by omega
     rw [h1,List.getElem?_cons_succ,List.getElem?_cons_succ]
     refine ih r s id (by omega) fun hm=>hn ?_
     split
     ·exact hm
     ·exact List.mem_cons_of_mem _ hm
theorem changed_sound {h h':Heap} {id:Nat} (hid:id<h.n) (hn:id ∉ changed h h'):h'.get id=h.get id:=by
 unfold changed at hn
 split at hn
 ·rename_i hle
  have:=diffO_sound _ _ _ id hid hn
  have h2:id<h'.n:=Nat.lt_of_lt_of_le hid hle
  unfold Heap.get
  rw [if_pos hid,if_pos h2,this,List.getElem?_drop]
  congr 1
  omega
 ·exact absurd (List.mem_range.2 hid) hn
end Go.Dm
/-
Part 21 of "Dm": a region with an open order: its run in an order of our own, by positions.
-/
namespace Go.Dm
structure Fit (P:Program) (ops:List Oper) (dis:List (Nat×DOper)) (bs:List Nat):Prop where
 edge:∀j o e,ops[j]?=some o→e∈o.after.toList→Region.binds .any e=true→bitAt bs j e.on=true∧e.on<j
 clos:∀j o i,ops[j]?=some o→i<ops.length→bitAt bs j i=true→∃ e,e∈o.after.toList∧Region.binds .any e=true∧(e.on=i∨bitAt bs e.on i=true)
 all:∀i,i<ops.length→∃ (p:Nat) (x:Nat×DOper),dis[p]?=some x∧x.1=i
 comp:∀(p:Nat) (x:Nat×DOper),dis[p]?=some x→∃ o k s d,ops[x.1]?=some o∧compOper P ops k s o=some d∧d.op=x.2.op∧d.guard=x.2.guard∧d.dst=x.2.dst
 kind:∀(p:Nat) (x:Nat×DOper),dis[p]?=some x→kindFits x.2=true
 pair:∀(p q:Nat) (x y:Nat×DOper),p<q→dis[p]?=some x→dis[q]?=some y→x.1≠y.1∧bitAt bs x.1 y.1=false∧pairOk (bitAt bs y.1 x.1) (rankAt dis p) x.2 y.2=true
theorem zipIdx_all {α:Type} {l:List α} {f:α×Nat→Bool} (h:l.zipIdx.all f=true) {j:Nat} {x:α} (hx:l[j]?=some x):f (x,j)=true:=by
 have:=List.all_eq_true.1 h (x,j) (by rw [List.mem_zipIdx_iff_getElem?];simpa using hx)
 exact this
theorem compRegion_fit {P:Program} {ops:List Oper} {dc:DCode} (hc:compRegion P ops true=some dc):∃ (dis:List (Nat×DOper)) (bs:List Nat),dc=.draw (dis.map (·.2))∧Fit P ops dis bs:=by
 simp only [compRegion,if_true]at hc
 split at hc
 ·cases hc
 ·rename_i dops hd
  split at hc
  ·rename_i dis hdis
   split at hc
   ·rename_i hok
    cases hc
    refine ⟨dis,bits ops,rfl,?_⟩
    simp only [drawOk,Bool.and_eq_true]at hok
    obtain ⟨⟨⟨⟨k1,k2⟩,k3⟩,k4⟩,k5⟩:=hok
    refine ⟨fun j o e ho he hb=>?_,fun j o i ho hi hb=>?_,fun i hi=>?_,fun p x hx=>?_,fun p x hx=>?_,fun p q x y hpq hx hy=>?_⟩
    ·have:=List.all_eq_true.1 (zipIdx_all k1 ho) e he
     simp only [hb,Bool.not_true,Bool.false_or,Bool.and_eq_true,decide_eq_true_eq]at this
     exact this
    ·have:=List.all_eq_true.1 (zipIdx_all k2 ho) i (List.mem_range.2 hi)
     simp only [hb,Bool.not_true,Bool.false_or,List.any_eq_true,Bool.and_eq_true,Bool.or_eq_true,beq_iff_eq]at this
     obtain ⟨e,h1,h2,h3⟩:=this
     exact ⟨e,h1,h2,h3⟩
    ·have:=List.all_eq_true.1 k3 i (List.mem_range.2 hi)
     simp only [List.any_eq_true,beq_iff_eq]at this
     obtain ⟨x,h1,h2⟩:=this
     obtain ⟨p,hp⟩:=List.mem_iff_getElem?.1 h1
     exact ⟨p,x,hp,h2⟩
    ·obtain ⟨hlt,hx'⟩:=List.getElem?_eq_some_iff.1 hx
     have hl:=mapM_length _ _ _ hdis
     have:=mapM_get _ _ _ hdis p (by omega) hlt
     rw [hx']at this
     split at this
     ·rename_i o ho
      simp only [Option.map_eq_some_iff]at this
      obtain ⟨d,hd,he⟩:=this
      subst he
      exact ⟨o,_,_,d,ho,hd,rfl,rfl,rfl⟩
     ·cases this
    ·exact List.all_eq_true.1 k4 x (List.mem_of_getElem? hx)
    ·have h1:=zipIdx_all k5 hy
     have hx':(dis.take q)[p]?=some x:=by rw [List.getElem?_take_of_lt hpq];exact hx
     have h2:=zipIdx_all h1 hx'
     simp only [Bool.and_eq_true,bne_iff_ne,ne_eq,Bool.not_eq_true']at h2
     exact ⟨h2.1.1,h2.1.2,h2.2⟩
   ·cases hc
  ·cases hc
def StepAt (call:CallF) (d:DOper) (env:Env) (hs:List Heap) (L:DLog) (b:Bool) (v:DV) (hs':List Heap) (L':DLog):Prop :=
 wantedD env d.guard=some b∧∃ g gs,hs=g::gs ∧
  (b=false→v=undefD∧(hs'=if d.kind=.read then hs else g::hs)∧L'=L) ∧
  (b=true→(d.kind=.read∧hs'=hs∧(∃ h0 h1,snapAt hs d.snap=some h0∧stepOp h0 env d.op=some (v,h1))∧L.free d.snap (target env d.op)=true∧L'=L.see d.calm (mark env d.op)) ∨
   (d.kind=.write∧L'=L∧∃ h1,oneOp call d.op env g=some (v,h1)∧hs'=h1::hs) ∨
   (d.kind=.create∧L'=L∧∃ h0 h1,snapAt hs d.snap=some h0∧heapOp call h0.n d.op env g=some (v,h1)∧hs'=h1::hs) ∨
   (d.kind=.create∧∃ (ids:List Nat) (h1:Heap),oneOp call d.op env g=some (v,h1)∧(∀id,id<g.n→id ∉ ids→h1.get id=g.get id)∧(∀r,r∈L.rds→r.1<g.n→Unhurt r g h1)∧hs'=h1::hs∧L'={L with pks:=ids.map (fun id=>(gs.length,id))++L.pks}))
structure Trace (call:CallF) (ds:List DOper) (env:Env) (hs:List Heap) (L0:DLog) (E:Nat→Env) (HS:Nat→List Heap) (LS:Nat→DLog) (V:Nat→DV) (B:Nat→Bool):Prop where
 E0:E 0=env
 H0:HS 0=hs
 L0:LS 0=L0
 step:∀p d,ds[p]?=some d→StepAt call d (E p) (HS p) (LS p) (B p) (V p) (HS (p+1)) (LS (p+1))∧E (p+1)=put (E p) d.dst (V p)
theorem appendD_other {g h1:Heap} {ety sz bytes id' s0 off len id:Nat} {ys:List DV} {v:DV} (hs:appendD g ety sz bytes (.sl id' s0 off len) ys=some (v,h1)) (hid:id<g.n) (hne:id'≠id):h1.get id=g.get id:=by
 unfold appendD at hs
 simp only at hs
 split at hs
 ·cases hs;rfl
 ·split at hs
  ·rename_i hg
   split at hs
   ·split at hs
    ·split at hs
     ·cases hs;exact get_set_other (get_lt hg) (fun e=>hne e.symm)
     ·cases hs
    ·split at hs
     ·cases hs;exact get_push_old hid
     ·split at hs
      ·cases hs
       rw [get_push_old (by exact hid)]
       exact get_set_other (get_lt hg) (fun e=>hne e.symm)
      ·cases hs
   ·cases hs
  ·cases hs
theorem poke_other {L:DLog} {env:Env} {o:DOp} {id' id:Nat} {g h1:Heap} {v:DV} (hp:pokeId L env o=some id') (hs:stepOp g env o=some (v,h1)) (hid:id<g.n) (hne:id'≠id):h1.get id=g.get id:=by
 cases o<;>simp only [pokeId]at hp<;>try (cases hp;done)
 case store n a x =>
  split at hp
  ·rename_i i1 s1 x1 o1 hev
   split at hp
   ·cases hp
    simp only [stepOp,hev]at hs
    split at hs
    ·rename_i h2 hst
     cases hs
     unfold storeP at hst
     simp only at hst
     split at hst
     ·rename_i hgid
      split at hst
      ·split at hst
       ·split at hst
        ·cases hst;exact get_set_other (get_lt hgid) (fun e=>hne e.symm)
        ·cases hst
       ·cases hst
      ·cases hst
     ·cases hst
    ·cases hs
   ·cases hp
  ·cases hp
 case append e sz b a x =>
  split at hp
  ·rename_i hev
   split at hp
   ·cases hp
    simp only [stepOp,hev]at hs
    split at hs
    ·exact appendD_other hs hid hne
    ·cases hs
   ·cases hp
  ·cases hp
 case appendZ e sz b z a x =>
  split at hp
  ·rename_i hev
   split at hp
   ·cases hp
    simp only [stepOp,hev]at hs
    split at hs
    ·split at hs
     ·exact appendD_other hs hid hne
     ·cases hs
    ·cases hs
   ·cases hp
  ·cases hp
theorem get_set_self {h:Heap} {id:Nat} {o o':DO} (hg:h.get id=some o):(h.set id o').get id=some o':=by
 have hlt:=get_lt hg
 unfold Heap.get at hg ⊢
 rw [if_pos hlt]at hg
 show (if id<h.n then (h.objs.set (h.n-1-id) o')[h.n-1-id]? else none)=some o'
 rw [if_pos hlt,List.getElem?_set_self (List.getElem?_eq_some_iff.1 hg).1]
theorem ecells_turn {sz off n:Nat} {e x:DV} (hx:storable n x=true) (hl:(ecells sz e).length=sz) (ho:off+n≤sz) {j:Nat} (hj:j<off∨off+n≤j):(ecells sz (turn sz off n e x))[j]?=(ecells sz e)[j]?:=by
 have hxl:(ecells n x).length=n:=by
  unfold storable at hx
  split at hx
  ·cases hx
  ·cases hx
  ·cases hx
  ·simpa [ecells] using hx
  ·have:n=1:=by simpa using hx
   subst this
   cases x<;>simp_all [ecells]
 unfold turn
 split
 ·rename_i h
  have:j ≥ sz:=by omega
  have hxl':(ecells sz x).length=sz:=by rw [←h.2];exact hxl
  rw [List.getElem?_eq_none (by omega),List.getElem?_eq_none (by omega)]
 ·show ((ecells sz e).take off++ecells n x++(ecells sz e).drop (off+n))[j]?=_
  have ht:((ecells sz e).take off).length=off:=by rw [List.length_take];omega
  rcases hj with hj|hj
  ·rw [List.append_assoc,List.getElem?_append_left (by omega),List.getElem?_take_of_lt hj]
  ·rw [List.getElem?_append_right (by rw [List.length_append];omega),List.getElem?_drop,List.length_append,ht,hxl]
   congr 1
   omega
theorem ecells_turn_len {sz off n:Nat} {e x:DV} (hx:storable n x=true) (hl:(ecells sz e).length=sz) (ho:off+n≤sz):(ecells sz (turn sz off n e x)).length=sz:=by
 have hxl:(ecells n x).length=n:=by
  unfold storable at hx
  split at hx
  ·cases hx
  ·cases hx
  ·cases hx
  ·simpa [ecells] using hx
  ·have:n=1:=by simpa using hx
   subst this
   cases x<;>simp_all [ecells]
 unfold turn
 split
 ·rename_i h;rw [←h.2];exact hxl
 ·show ((ecells sz e).take off++ecells n x++(ecells sz e).drop (off+n)).length=sz
  simp only [List.length_append,List.length_take,List.length_drop]
  omega
theorem pick_apart {m:Option Nat} {xs ys:List DV} {o:Nat} (hl:xs.length=ys.length) (h:∀j,o≤j→j<o+width m→xs[j]?=ys[j]?):pickCells m xs o=pickCells m ys o:=by
 cases m with
 | none=>exact h o (Nat.le_refl _) (Nat.lt_succ_self _)
 | some k =>
  simp only [pickCells,hl]
  split
  ·congr 2
   refine List.ext_getElem? fun i=>?_
   simp only [List.getElem?_take,List.getElem?_drop]
   split
   ·exact h (o+i) (by omega) (by show o+i<o+k;omega)
   ·rfl
  ·rfl
theorem store_apart {g h1:Heap} {n id sz idx off:Nat} {x:DV} (hs:storeP g n (.ptr id sz idx off) x=some h1) {p:Place} (ha:apart p n idx off=true):Unhurt (id,p) g h1:=by
 unfold storeP at hs
 simp only at hs
 split at hs
 ·rename_i ety sz' xs cap hg
  split at hs
  ·rename_i hc
   obtain ⟨rfl,_,hst,hoff⟩:=hc
   split at hs
   ·rename_i e he
    split at hs
    ·rename_i hel
     cases hs
     cases p with
     | none=>cases ha
     | some q =>
      obtain ⟨m,sz',i,o⟩:=q
      have hset:(g.set id (.arr ety sz (xs.set idx (turn sz off n e x)) cap)).get id=some (.arr ety sz (xs.set idx (turn sz off n e x)) cap):=get_set_self hg
      unfold Unhurt
      simp only [loadP,hset,hg]
      split
      ·rename_i hsz
       subst hsz
       simp only [apart,Bool.or_eq_true,Bool.not_eq_true',Nat.ble_eq]at ha
       by_cases hi:i=idx
       ·subst hi
        have hlt:=(List.getElem?_eq_some_iff.1 he).1
        rw [List.getElem?_set_self hlt,he]
        refine pick_apart (by rw [ecells_turn_len hst hel hoff,hel]) fun j j1 j2=>ecells_turn hst hel hoff ?_
        rcases ha with (ha|ha)|ha
        ·simp at ha
        ·omega
        ·omega
       ·rw [List.getElem?_set_ne (fun e=>hi e.symm)]
      ·rfl
    ·cases hs
   ·cases hs
  ·cases hs
 ·cases hs
theorem poke_unhurt {L:DLog} {env:Env} {o:DOp} {id:Nat} {g h1:Heap} {v:DV} (hp:pokeId L env o=some id) (hs:stepOp g env o=some (v,h1)):∀r,r∈L.rds→r.1<g.n→Unhurt r g h1:=by
 intro r hr hn
 by_cases hne:id=r.1
 ·subst hne
  have un:∀i:Nat,(if (L.rds.all fun x=>!(Nat.beq x.1 i))=true then some i else none)=some r.1→False:=by
   intro i hi
   split at hi
   ·rename_i hall
    cases hi
    have:=List.all_eq_true.1 hall r hr
    simp at this
   ·cases hi
  unfold pokeId at hp
  split at hp
  ·rename_i n a x
   split at hp
   ·rename_i i1 sz idx off hev
    split at hp
    ·rename_i hall
     cases hp
     have ha:=List.all_eq_true.1 hall r hr
     simp only [Nat.beq_refl,Bool.not_true,Bool.false_or]at ha
     simp only [stepOp,hev]at hs
     split at hs
     ·rename_i h2 hst
      cases hs
      exact store_apart hst ha
     ·cases hs
    ·cases hp
   ·cases hp
  ·split at hp
   ·exact (un _ hp).elim
   ·cases hp
  ·split at hp
   ·exact (un _ hp).elim
   ·cases hp
  ·cases hp
 ·exact .of_get (poke_other hp hs hn hne)
theorem trace_of_run {call:CallF}:∀(ds:List DOper) (env env':Env) (hs:List Heap) (L:DLog) (h':Heap),runDraw call ds env hs L=some (env',h') →
  ∃ E HS LS V B,Trace call ds env hs L E HS LS V B∧E ds.length=env'∧∃ gs,HS ds.length=h'::gs:=by
 intro ds
 induction ds with
 | nil =>
  intro env env' hs L h' hr
  cases hs with
  | nil=>cases hr
  | cons h hs =>
   cases hr
   exact ⟨fun _=>env,fun _=>h'::hs,fun _=>L,fun _=>.unk,fun _=>false,⟨rfl,rfl,rfl,fun p d hd=>by simp at hd⟩,rfl,hs,rfl⟩
 | cons o r ih =>
  intro env env' hs L h' hr
  have key:∀b v hs1 L1,StepAt call o env hs L b v hs1 L1→runDraw call r (put env o.dst v) hs1 L1=some (env',h') →
    ∃ E HS LS V B,Trace call (o::r) env hs L E HS LS V B∧E (o::r).length=env'∧∃ gs,HS (o::r).length=h'::gs:=by
   intro b v hs1 L1 hst hr1
   obtain ⟨E,HS,LS,V,B,ht,h1,h2⟩:=ih _ _ _ _ _ hr1
   refine ⟨fun p=>match p with|0=>env|p+1=>E p,fun p=>match p with|0=>hs|p+1=>HS p,fun p=>match p with|0=>L|p+1=>LS p,fun p=>match p with|0=>v|p+1=>V p,fun p=>match p with|0=>b|p+1=>B p,⟨rfl,rfl,rfl,?_⟩,h1,h2⟩
   intro p d hd
   cases p with
   | zero =>
    simp only [List.getElem?_cons_zero,Option.some.injEq]at hd
    subst hd
    exact ⟨by simpa only [ht.H0,ht.L0] using hst,by simp only [ht.E0]⟩
   | succ p=>exact ht.step p d (by simpa using hd)
  cases hs with
  | nil=>simp [runDraw]at hr
  | cons h hs =>
   simp only [runDraw]at hr
   split at hr
   ·cases hr
   ·rename_i hw
    split at hr
    ·rename_i hk
     split at hr
     ·rename_i hfree
      split at hr
      ·rename_i h0 hs0
       split at hr
       ·rename_i v h1 hst
        exact key true v _ _ ⟨hw,h,hs,rfl,fun e=>(by cases e),fun _=>.inl ⟨hk,rfl,⟨h0,h1,hs0,hst⟩,hfree,rfl⟩⟩ hr
       ·cases hr
      ·cases hr
     ·cases hr
    ·rename_i hk
     split at hr
     ·rename_i v h1 hst
      exact key true v _ _ ⟨hw,h,hs,rfl,fun e=>(by cases e),fun _=>.inr (.inl ⟨hk,rfl,h1,hst,rfl⟩)⟩ hr
     ·cases hr
    ·rename_i hk
     split at hr
     ·rename_i h0 hs0
      split at hr
      ·rename_i v h1 L1 hst
       refine key true v _ _ ⟨hw,h,hs,rfl,fun e=>(by cases e),fun _=>.inr (.inr ?_)⟩ hr
       unfold createOp at hst
       split at hst
       ·rename_i id hid
        split at hst
        ·rename_i h3
         cases hst
         refine .inr ⟨hk,[id],h1,by rw [poke_oneOp hid];exact h3,fun i hi hne=>poke_other hid h3 hi (fun e=>hne (by rw [e];exact List.mem_singleton.2 rfl)),poke_unhurt hid h3,rfl,rfl⟩
        ·cases hst
       ·split at hst
        ·unfold pokeCall at hst
         split at hst
         ·split at hst
          ·rename_i h3
           split at hst
           ·rename_i hall
            cases hst
            exact .inr ⟨hk,_,h1,h3,fun i hi hne=>changed_sound hi hne,fun r hr hn=>.of_get (changed_sound hn fun hm=>by
             have:=List.all_eq_true.1 (List.all_eq_true.1 hall _ hm) r hr
             simp at this),rfl,rfl⟩
           ·cases hst
          ·cases hst
         ·cases hst
        ·split at hst
         ·rename_i h3;cases hst;exact .inl ⟨hk,rfl,h0,h1,hs0,h3,rfl⟩
         ·cases hst
      ·cases hr
     ·cases hr
   ·rename_i hw
    exact key false undefD _ _ ⟨hw,h,hs,rfl,fun _=>⟨rfl,rfl,rfl⟩,fun e=>(by cases e)⟩ hr
def headH (hs:List Heap):Heap:=hs.headD default
section
variable {call:CallF} {ds:List DOper} {env:Env} {h:Heap} {E:Nat→Env} {HS:Nat→List Heap} {LS:Nat→DLog} {V:Nat→DV} {B:Nat→Bool}
def rankD (ds:List DOper) (p:Nat):Nat:=((ds.take p).filter fun x=>x.kind != .read).length
theorem rankD_succ {p:Nat} {d:DOper} (hd:ds[p]?=some d):rankD ds (p+1)=rankD ds p+(if d.kind=.read then 0 else 1):=by
 obtain ⟨hlt,he⟩:=List.getElem?_eq_some_iff.1 hd
 unfold rankD
 rw [List.take_succ_eq_append_getElem hlt,List.filter_append,List.length_append,he]
 cases hk:d.kind<;>simp [hk]
theorem rankD_mono {p q:Nat} (hpq:p≤q):rankD ds p≤rankD ds q:=by
 unfold rankD
 have:(ds.take p).filter (fun x=>x.kind != .read) <+: (ds.take q).filter (fun x=>x.kind != .read):=(List.take_prefix_take_left hpq).filter _
 exact this.length_le
theorem Trace.shape (T:Trace call ds env [h] .start E HS LS V B):∀p,p≤ds.length→HS p≠[]∧(HS p).length=rankD ds p+1:=by
 intro p
 induction p with
 | zero=>intro _;rw [T.H0];simp [rankD]
 | succ p ih =>
  intro hp
  obtain ⟨d,hd⟩:∃ d,ds[p]?=some d:=⟨ds[p]'(by omega),List.getElem?_eq_getElem (by omega)⟩
  obtain ⟨i1,i2⟩:=ih (by omega)
  obtain ⟨⟨hw,g,gs,hg,hf,ht⟩,_⟩:=T.step p d hd
  rw [rankD_succ hd]
  cases hb:B p with
  | false =>
   obtain ⟨_,e,_⟩:=hf hb
   rw [e]
   split
   ·exact ⟨i1,by omega⟩
   ·exact ⟨by simp,by simp [i2]⟩
  | true =>
   rcases ht hb with ⟨hk,e,_⟩|⟨hk,_,h1,_,e⟩|⟨hk,_,h0,h1,_,_,e⟩|⟨hk,id,h1,_,_,_,e,_⟩<;>rw [e,hk]
   ·exact ⟨i1,by simp [i2]⟩
   ·exact ⟨by simp,by simp [i2]⟩
   ·exact ⟨by simp,by simp [i2]⟩
   ·exact ⟨by simp,by simp [i2]⟩
theorem Trace.heap (T:Trace call ds env [h] .start E HS LS V B) {p:Nat} {d:DOper} (hd:ds[p]?=some d) :
  (d.kind=.read∧HS (p+1)=HS p)∨(d.kind≠.read∧HS (p+1)=headH (HS (p+1))::HS p):=by
 obtain ⟨⟨hw,g,gs,hg,hf,ht⟩,_⟩:=T.step p d hd
 cases hb:B p with
 | false =>
  obtain ⟨_,e,_⟩:=hf hb
  split at e
  ·rename_i hk;exact .inl ⟨hk,e⟩
  ·rename_i hk;exact .inr ⟨hk,by rw [e];simp [headH]⟩
 | true =>
  rcases ht hb with ⟨hk,e,_⟩|⟨hk,_,h1,_,e⟩|⟨hk,_,h0,h1,_,_,e⟩|⟨hk,id,h1,_,_,_,e,_⟩
  ·exact .inl ⟨hk,e⟩
  ·exact .inr ⟨by rw [hk];simp,by rw [e];simp [headH]⟩
  ·exact .inr ⟨by rw [hk];simp,by rw [e];simp [headH]⟩
  ·exact .inr ⟨by rw [hk];simp,by rw [e];simp [headH]⟩
theorem Trace.snap (T:Trace call ds env [h] .start E HS LS V B):∀p,p≤ds.length→∀s h0,snapAt (HS p) s=some h0→∃ m,m≤p∧h0=headH (HS m)∧rankD ds m=s:=by
 intro p
 induction p with
 | zero =>
  intro _ s h0 hs
  rw [T.H0]at hs
  unfold snapAt at hs
  split at hs
  ·rename_i hlt
   simp only [List.length_singleton,Nat.lt_one_iff]at hlt
   subst hlt
   simp at hs
   exact ⟨0,Nat.le_refl _,by rw [T.H0];exact hs.symm,rfl⟩
  ·cases hs
 | succ p ih =>
  intro hp s h0 hs
  obtain ⟨d,hd⟩:∃ d,ds[p]?=some d:=⟨ds[p]'(by omega),List.getElem?_eq_getElem (by omega)⟩
  have hl:=(T.shape p (by omega)).2
  rcases T.heap hd with ⟨hk,e⟩|⟨hk,e⟩
  ·rw [e]at hs
   obtain ⟨m,h1,h2,h3⟩:=ih (by omega) s h0 hs
   exact ⟨m,by omega,h2,h3⟩
  ·rw [e]at hs
   unfold snapAt at hs
   split at hs
   ·rename_i hlt
    simp only [List.length_cons]at hlt hs
    by_cases hs':s=(HS p).length
    ·subst hs'
     simp only [Nat.add_sub_cancel,Nat.sub_self,List.getElem?_cons_zero,Option.some.injEq]at hs
     exact ⟨p+1,Nat.le_refl _,hs.symm,by rw [rankD_succ hd,if_neg hk,hl]⟩
    ·have:(HS p).length+1-1-s=((HS p).length-1-s)+1:=by omega
     rw [this,List.getElem?_cons_succ]at hs
     obtain ⟨m,h1,h2,h3⟩:=ih (by omega) s h0 (by unfold snapAt;rw [if_pos (by omega)];exact hs)
     exact ⟨m,by omega,h2,h3⟩
   ·cases hs
theorem Trace.keeps1 (T:Trace call ds env [h] .start E HS LS V B) (hc:CallKeeps call) (hl:h.lim≤h.n):∀p,p≤ds.length→(headH (HS p)).lim≤(headH (HS p)).n∧∀m,m≤p→Keeps (headH (HS m)) (headH (HS p)):=by
 intro p
 induction p with
 | zero =>
  intro _
  refine ⟨by rw [T.H0];exact hl,fun m hm=>?_⟩
  have:m=0:=by omega
  subst this
  exact .refl _
 | succ p ih =>
  intro hp
  obtain ⟨d,hd⟩:∃ d,ds[p]?=some d:=⟨ds[p]'(by omega),List.getElem?_eq_getElem (by omega)⟩
  obtain ⟨i1,i2⟩:=ih (by omega)
  have one:Keeps (headH (HS p)) (headH (HS (p+1))):=by
   obtain ⟨⟨hw,g,gs,hg,hf,ht⟩,_⟩:=T.step p d hd
   have hhd:headH (HS p)=g:=by rw [hg];rfl
   cases hb:B p with
   | false =>
    obtain ⟨_,e,_⟩:=hf hb
    rw [e]
    split
    ·exact .refl _
    ·rw [hhd];exact .refl _
   | true =>
    rcases ht hb with ⟨hk,e,_⟩|⟨hk,_,h1,h2,e⟩|⟨hk,_,h0,h1,h2,h3,e⟩|⟨hk,id,h1,h3,_,_,e,_⟩
    rotate_right
    ·rw [e,hhd];exact oneOp_keeps hc (by rw [←hhd];exact i1) h3
    ·rw [e];exact .refl _
    ·rw [e,hhd];exact oneOp_keeps hc (by rw [←hhd];exact i1) h2
    ·obtain ⟨m,a1,a2,_⟩:=T.snap p (by omega) _ _ h2
     rw [e,hhd]
     exact (heapOp_keeps hc (by rw [←hhd];exact i1) (by rw [a2,←hhd];exact (i2 m a1).n) h3).1
  refine ⟨one.lim_le i1,fun m hm=>?_⟩
  by_cases e:m=p+1
  ·subst e;exact .refl _
  ·exact (i2 m (by omega)).trans one
theorem Trace.keeps (T:Trace call ds env [h] .start E HS LS V B) (hc:CallKeeps call) (hl:h.lim≤h.n) {m p:Nat} (hm:m≤p) (hp:p≤ds.length):Keeps (headH (HS m)) (headH (HS p)):=(T.keeps1 hc hl p hp).2 m hm
theorem Trace.alloc (T:Trace call ds env [h] .start E HS LS V B) {p:Nat} {d:DOper} (hd:ds[p]?=some d) (ha:d.op.cls=.alloc) (hk:d.kind=.create) (hb:B p=true) :
  ∃ ety sz xs,made (E p) d.op=some (ety,sz,xs)∧V p=madeV (headH (HS p)).n d.op∧headH (HS (p+1))=(headH (HS p)).push (.arr ety sz xs (some xs.length)):=by
 obtain ⟨⟨hw,g,gs,hg,hf,ht⟩,_⟩:=T.step p d hd
 have hhd:headH (HS p)=g:=by rw [hg];rfl
 have hno:∀(c:CallF) (h:Heap),oneOp c d.op (E p) h=stepOp h (E p) d.op:=fun c h=>by
  rcases cls_made ha with ⟨ety,sz,z,e⟩|⟨ety,sz,z,len,parts,e⟩<;>rw [e]<;>rfl
 rcases ht hb with ⟨hk',_⟩|⟨hk',_⟩|⟨_,_,h0,h1,h2,h3,e⟩|⟨_,id,h1,h2,_,_,e,_⟩
 ·rw [hk]at hk';cases hk'
 ·rw [hk]at hk';cases hk'
 ·unfold heapOp at h3
  rw [hno]at h3
  split at h3
  ·rename_i v h' h4
   simp only [Option.some.injEq,Prod.mk.injEq]at h3
   obtain ⟨ety,sz,xs,m1,m2,m3⟩:=stepOp_made ha h4
   rw [e,hhd]
   refine ⟨ety,sz,xs,m1,by rw [←h3.1,m2],?_⟩
   show h1=_
   rw [←h3.2,m3]
   rfl
  ·cases h3
 ·rw [hno]at h2
  obtain ⟨ety,sz,xs,m1,m2,m3⟩:=stepOp_made ha h2
  rw [e,hhd]
  exact ⟨ety,sz,xs,m1,m2,m3⟩
theorem Trace.grows (T : Trace call ds env [h] .start E HS LS V B) (hc : CallKeeps call) (hl : h.lim ≤ h.n) {m s : Nat} (hs : rankD ds m = s) : ∀ k, m ≤ k → k ≤ ds.length →
    (∀ (p : Nat) (d : DOper), m ≤ p → p < k → ds[p]? = some d → d.kind ≠ .read → d.op.cls = .alloc ∨ (d.kind = .create ∧ s ≤ d.snap)) →
    (∀ (p : Nat) (d : DOper), ds[p]? = some d → d.op.cls = .alloc → d.kind = .create) →
    ∀ r : Nat × Place, r.1 < (headH (HS m)).n → (∀ (p : Nat) (d : DOper), m ≤ p → p < k → ds[p]? = some d → d.kind = .create → d.op.cls ≠ .alloc → r ∈ (LS p).rds ∨ ((HS p).length - 1, r.1) ∉ (LS (p + 1)).pks) →
    Unhurt r (headH (HS m)) (headH (HS k)) := by
  intro k
  induction k with
  | zero => intro hm _ _ _ id _ _; have : m = 0 := by omega
            subst this; exact .of_get rfl
  | succ k ih =>
    intro hm hk hw hal rr hid hnp
    by_cases e : m = k + 1
    · subst e; exact .of_get rfl
    obtain ⟨d, hd⟩ : ∃ d, ds[k]? = some d := ⟨ds[k]'(by omega), List.getElem?_eq_getElem (by omega)⟩
    have i0 := ih (by omega) (by omega) (fun p d a1 a2 => hw p d a1 (by omega)) hal rr hid (fun p d a1 a2 => hnp p d a1 (by omega))
    refine i0.trans ?_
    have hn : rr.1 < (headH (HS k)).n := Nat.lt_of_lt_of_le hid (T.keeps hc hl (by omega : m ≤ k) (by omega)).n
    obtain ⟨⟨hwd, g, gs, hg, hf, ht⟩, _⟩ := T.step k d hd
    have hhd : headH (HS k) = g := by rw [hg]; rfl
    cases hb : B k with
    | false =>
      obtain ⟨_, e, _⟩ := hf hb
      rw [e]
      split
      · exact .of_get rfl
      · rw [hhd]; exact .of_get rfl
    | true =>
      by_cases hk0 : d.kind = .read
      · rcases ht hb with ⟨_, e, _⟩ | ⟨hk', _⟩ | ⟨hk', _⟩ | ⟨hk', _⟩
        · rw [e]; exact .of_get rfl
        · rw [hk0] at hk'; cases hk'
        · rw [hk0] at hk'; cases hk'
        · rw [hk0] at hk'; cases hk'
      · have hwk := hw k d (by omega) (by omega) hd hk0
        have hsplit : d.op.cls = .alloc ∨ (d.op.cls ≠ .alloc ∧ d.kind = .create ∧ s ≤ d.snap) := by
          by_cases ha : d.op.cls = .alloc
          · exact .inl ha
          · exact .inr ⟨ha, hwk.resolve_left ha⟩
        rcases hsplit with ha | ⟨hna, hcr, hsn⟩
        · have hcr := hal k d hd ha
          obtain ⟨ety, sz, xs, _, _, e⟩ := T.alloc hd ha hcr hb
          rw [e]
          exact .of_get (get_push_old hn)
        · rcases ht hb with ⟨hk', _⟩ | ⟨hk', _⟩ | ⟨_, _, h0, h1, h2, h3, e⟩ | ⟨_, ids, h1, _, h3, h4, e, eL⟩
          rotate_right
          · rw [e, hhd]
            rcases hnp k d (by omega) (by omega) hd hcr hna with hm | hm
            · exact h4 rr hm (by rw [← hhd]; exact hn)
            · refine .of_get (h3 rr.1 (by rw [← hhd]; exact hn) fun e' => hm ?_)
              rw [eL, hg]
              exact List.mem_append_left _ (List.mem_map.2 ⟨rr.1, e', rfl⟩)
          · rw [hcr] at hk'; cases hk'
          · rw [hcr] at hk'; cases hk'
          · obtain ⟨m', a1, a2, a3⟩ := T.snap k (by omega) _ _ h2
            rw [e, hhd]
            have hkk := T.keeps1 hc hl k (by omega)
            have hmm : (headH (HS m)).n ≤ h0.n := by
              rw [a2]
              by_cases hle : m ≤ m'
              · exact (T.keeps hc hl hle (by omega)).n
              · have h4 : rankD ds m' ≤ rankD ds m := rankD_mono (by omega)
                have h5 : rankD ds m' = rankD ds m := by omega
                have same : ∀ q, m' ≤ q → q ≤ m → HS q = HS m' := by
                  intro q
                  induction q with
                  | zero => intro hq _; have : m' = 0 := by omega
                            subst this; rfl
                  | succ q iq =>
                    intro hq1 hq2
                    by_cases eq : m' = q + 1
                    · subst eq; rfl
                    obtain ⟨dq, hdq⟩ : ∃ d, ds[q]? = some d := ⟨ds[q]'(by omega), List.getElem?_eq_getElem (by omega)⟩
                    have r1 : rankD ds m' ≤ rankD ds q := rankD_mono (by omega)
                    have r2 : rankD ds (q + 1) ≤ rankD ds m := rankD_mono (by omega)
                    rw [rankD_succ hdq] at r2
                    rcases T.heap hdq with ⟨_, e⟩ | ⟨hne, _⟩
                    · rw [e]; exact iq (by omega) (by omega)
                    · rw [if_neg hne] at r2; omega
                rw [same m (by omega) (Nat.le_refl _)]
                exact Nat.le_refl _
            exact .of_get ((heapOp_keeps hc (by rw [← hhd]; exact hkk.1) (by rw [a2, ← hhd]; exact (hkk.2 m' a1).n) h3).2 rr.1 (Nat.lt_of_lt_of_le hid hmm))
theorem Trace.logs (T : Trace call ds env [h] .start E HS LS V B) {m : Nat} : ∀ p, m ≤ p → p ≤ ds.length → (∀ x, x ∈ (LS m).rds → x ∈ (LS p).rds) ∧ (∀ x, x ∈ (LS m).pks → x ∈ (LS p).pks) := by
  intro p
  induction p with
  | zero => intro hm _; have : m = 0 := by omega
            subst this; exact ⟨fun _ h => h, fun _ h => h⟩
  | succ p ih =>
    intro hm hp
    by_cases e : m = p + 1
    · subst e; exact ⟨fun _ h => h, fun _ h => h⟩
    obtain ⟨i1, i2⟩ := ih (by omega) (by omega)
    obtain ⟨d, hd⟩ : ∃ d, ds[p]? = some d := ⟨ds[p]'(by omega), List.getElem?_eq_getElem (by omega)⟩
    obtain ⟨⟨hw, g, gs, hg, hf, ht⟩, _⟩ := T.step p d hd
    cases hb : B p with
    | false =>
      obtain ⟨_, _, e⟩ := hf hb
      rw [e]; exact ⟨i1, i2⟩
    | true =>
      rcases ht hb with ⟨_, _, _, _, e⟩ | ⟨_, e, _⟩ | ⟨_, e, _⟩ | ⟨_, ids, h1, _, _, _, _, e⟩
      · rw [e]
        unfold DLog.see
        split
        · exact ⟨i1, i2⟩
        · unfold DLog.read
          split
          · exact ⟨fun x hx => List.mem_cons_of_mem _ (i1 x hx), i2⟩
          · exact ⟨i1, i2⟩
      · rw [e]; exact ⟨i1, i2⟩
      · rw [e]; exact ⟨i1, i2⟩
      · rw [e]; exact ⟨i1, fun x hx => List.mem_append_right _ (i2 x hx)⟩
theorem put_length (env:Env) (d:Option Nat) (v:DV):(put env d v).length=env.length:=by cases d<;>simp [put]
theorem Trace.len (T:Trace call ds env [h] .start E HS LS V B):∀p,p≤ds.length→(E p).length=env.length:=by
 intro p
 induction p with
 | zero=>intro _;rw [T.E0]
 | succ p ih =>
  intro hp
  obtain ⟨d,hd⟩:∃ d,ds[p]?=some d:=⟨ds[p]'(by omega),List.getElem?_eq_getElem (by omega)⟩
  rw [(T.step p d hd).2,put_length,ih (by omega)]
theorem Trace.old (T:Trace call ds env [h] .start E HS LS V B) {t:Nat}:∀q,q≤ds.length→(∀(p:Nat) (d:DOper),p<q→ds[p]?=some d→d.dst≠some t)→(E q)[t]?=env[t]?:=by
 intro q
 induction q with
 | zero=>intro _ _;rw [T.E0]
 | succ q ih =>
  intro hq hno
  obtain ⟨d,hd⟩:∃ d,ds[q]?=some d:=⟨ds[q]'(by omega),List.getElem?_eq_getElem (by omega)⟩
  rw [(T.step q d hd).2]
  have h1:=ih (by omega) (fun p d hp=>hno p d (by omega))
  have h2:=hno q d (by omega) hd
  unfold put
  split
  ·rename_i t' ht'
   rw [List.getElem?_set,if_neg (fun e:t'=t=>h2 (by rw [ht',e])),h1]
  ·exact h1
theorem Trace.new (T:Trace call ds env [h] .start E HS LS V B) {t p:Nat} {d:DOper} (hd:ds[p]?=some d) (ht:d.dst=some t) (hlt:t<env.length):∀q,p<q→q≤ds.length →
  (∀(p':Nat) (d':DOper),p<p'→p'<q→ds[p']?=some d'→d'.dst≠some t)→(E q)[t]?=some (V p):=by
 intro q
 induction q with
 | zero=>intro h0;omega
 | succ q ih =>
  intro hpq hq hno
  obtain ⟨d',hd'⟩:∃ d,ds[q]?=some d:=⟨ds[q]'(by omega),List.getElem?_eq_getElem (by omega)⟩
  rw [(T.step q d' hd').2]
  have hl:=T.len q (by omega)
  by_cases e:p=q
  ·subst e
   have:d'=d:=Option.some.inj (hd'.symm.trans hd)
   subst this
   simp only [put,ht,List.getElem?_set]
   rw [if_pos trivial,if_pos (by omega)]
  ·have h1:=ih (by omega) (by omega) (fun p' d' a1 a2=>hno p' d' a1 (by omega))
   have h2:=hno q d' (by omega) (by omega) hd'
   unfold put
   split
   ·rename_i t' ht'
    rw [List.getElem?_set,if_neg (fun e:t'=t=>h2 (by rw [ht',e])),h1]
   ·exact h1
end
end Go.Dm
/-
Part 22 of "Dm": a region with an open order: what holds at each of its states.
-/
namespace Go.Dm
def Ctx.cut (c:Ctx) (N:Nat):Ctx:={c with ρ:=fun id=>if id<N then c.ρ id else none}
theorem cut_lt {c:Ctx} {N id:Nat} (h:id<N):(c.cut N).ρ id=c.ρ id:=by simp [Ctx.cut,h]
theorem cut_some {c:Ctx} {N id:Nat} {p:Nat×Nat} (h:(c.cut N).ρ id=some p):id<N∧c.ρ id=some p:=by
 simp only [Ctx.cut]at h
 split at h
 ·exact ⟨by assumption,h⟩
 ·cases h
theorem le_rho {c:Ctx} {ρ ρ':Nat→Option (Nat×Nat)} (h:∀id p,ρ id=some p→ρ' id=some p):CtxLe {c with ρ:=ρ} {c with ρ:=ρ'} :=
 ⟨h,Nat.le_refl _,fun _ _ _=>rfl,fun _ h=>.inl h,fun _ _ _ h=>h,fun _ h=>h,fun _ _ h=>⟨h,rfl⟩,.refl _,rfl⟩
theorem cut_le {c:Ctx} {N M:Nat} (h:N≤M):CtxLe (c.cut N) (c.cut M) :=
 le_rho fun id p hp=>by
  split at hp
  ·rename_i hlt;rw [if_pos (by omega)];exact hp
  ·cases hp
theorem cut_self {h:Heap} {c:Ctx} (hR:Rel h c):c.cut h.n=c:=by
 have:(fun id=>if id<h.n then c.ρ id else none)=c.ρ:=by
  funext id
  split
  ·rfl
  ·rename_i hn
   cases hr:c.ρ id with
   | none=>rfl
   | some p=>exact absurd (hR.dom id (by rw [hr];simp)) hn
 cases c
 simp only [Ctx.cut]at *
 rw [this]
theorem Rel.setLim {h:Heap} {c:Ctx} (hR:Rel h c) {l:Nat} (hl:l≤h.n):Rel {h with lim:=l} c:=⟨hR.len,hl,hR.dom,hR.obj,hR.inj,hR.own,hR.notX,hR.old,hR.pend,hR.glob⟩
theorem ownB_dead {h:Heap} {c:Ctx} {b:Nat}:ownB (h.push .dead) (c.cut (h.n+1)).ρ b↔ownB h (c.cut h.n).ρ b:=by
 constructor
 ·rintro ⟨id,o,x,hg,ha,hr⟩
  rw [get_push]at hg
  split at hg
  ·cases hg;simp [alive]at ha
  ·have:=get_lt hg
   exact ⟨id,o,x,hg,ha,by rw [cut_lt this];rw [cut_lt (by omega)]at hr;exact hr⟩
 ·rintro ⟨id,o,x,hg,ha,hr⟩
  have:=get_lt hg
  exact ⟨id,o,x,by rw [get_push_old this];exact hg,ha,by rw [cut_lt (by omega)];rw [cut_lt this]at hr;exact hr⟩
theorem Rel.pad1 {h:Heap} {c:Ctx} (hR:Rel h (c.cut h.n)):Rel (h.push .dead) (c.cut (h.n+1)):=by
 refine ⟨len_push hR.len,Nat.le_succ_of_le hR.lim,fun id hid=>?_,fun id o hg=>?_,fun i j oi oj b x y hi hj hai haj hri hrj=>?_,fun b=>?_,hR.notX,hR.old,fun b hb=>⟨(hR.pend b hb).1,fun ho=>(hR.pend b hb).2 (ownB_dead.1 ho)⟩,hR.glob.mono (cut_le (by omega))⟩
 ·cases hr:(c.cut (h.n+1)).ρ id with
  | none=>exact absurd hr hid
  | some p=>exact (cut_some hr).1
 ·rw [get_push]at hg
  split at hg
  ·cases hg;trivial
  ·exact (hR.obj id o hg).mono (cut_le (by omega)) (fun _ _ _ _=>rfl)
 ·have old:∀i oi,(h.push .dead).get i=some oi→alive oi=true→h.get i=some oi:=by
   intro i oi hi hai
   rw [get_push]at hi
   split at hi
   ·cases hi;simp [alive]at hai
   ·exact hi
  have gi:=old i oi hi hai
  have gj:=old j oj hj haj
  have li:=get_lt gi
  have lj:=get_lt gj
  rw [cut_lt (by omega)]at hri hrj
  exact hR.inj i j oi oj b x y gi gj hai haj (by rw [cut_lt li];exact hri) (by rw [cut_lt lj];exact hrj)
 ·have:=hR.own b
  show c.O b↔_∨c.E b
  rw [ownB_dead]
  exact this
theorem Rel.pad {h:Heap} {c:Ctx} (hR:Rel h (c.cut h.n)):∀j,∃ h2:Heap,Rel h2 (c.cut (h.n+j))∧h2.n=h.n+j∧∀id,id<h.n→h2.get id=h.get id:=by
 intro j
 induction j with
 | zero=>exact ⟨h,hR,rfl,fun _ _=>rfl⟩
 | succ j ih =>
  obtain ⟨h2,k1,k2,k3⟩:=ih
  refine ⟨h2.push .dead,?_,by rw [n_push,k2];omega,fun id hid=>by rw [get_push_old (by omega)];exact k3 id hid⟩
  have:=Rel.pad1 (c:=c) (h:=h2) (by rw [k2];exact k1)
  rw [k2]at this
  exact this
def FreshR (c:Ctx) (b ety sz:Nat) (xs:List DV):Prop:=∃ cur,0<sz∧cur.size=xs.length*sz∧OneRow cur∧ElemsR c xs sz cur 0∧c.w.heap[b]?=some (.cells cur ety (0,0))
theorem FreshR.mono {c c':Ctx} {b ety sz:Nat} {xs:List DV} (h:FreshR c b ety sz xs) (hle:CtxLe c c') (hb:c'.w.heap[b]?=c.w.heap[b]?):FreshR c' b ety sz xs:=by
 obtain ⟨cur,h1,h2,h3,h4,h5⟩:=h
 exact ⟨cur,h1,h2,h3,fun i hi=>⟨(h4 i hi).1,fun j hj=>by
  obtain ⟨v,a1,a2,a3⟩:=(h4 i hi).2 j hj
  exact ⟨v,a1,a2,a3.mono hle⟩⟩,hb.trans h5⟩
theorem compOp_alloc {P:Program} {o:Oper} {ety sz:Nat} {z:DV} (hc:compOp P o=some (.alloc ety sz z)):o.op=.alloc ety∧∃ bytes,elemOf' P ety=some (sz,bytes,z):=by
 unfold compOp at hc
 split at hc
 case h_4 e ho =>
  split at hc
  ·rename_i sz' b z' he;cases hc;exact ⟨ho,b,he⟩
  ·cases hc
 all_goals ((repeat' split at hc)<;>first|(cases hc;done)|(simp at hc;done))
theorem compOp_buildSlice {P:Program} {o:Oper} {e sz len:Nat} {z:DV} {ps:List (Nat×Opd)} (hc:compOp P o=some (.buildSlice e sz z len ps)):∃ t parts bytes,o.op=.buildSlice t len parts∧P.underlying t=some (.slice e)∧elemOf' P e=some (sz,bytes,z) ∧
  parts.toList.mapM (fun (x:Nat×Operand)=>(opd x.2).map fun y=>(x.1,y))=some ps∧len*sz≤16777216:=by
 unfold compOp at hc
 split at hc
 case h_7 t n parts ho =>
  split at hc
  ·rename_i e' ht
   split at hc
   ·rename_i sz' b z' he
    split at hc
    ·rename_i ps' hps
     split at hc
     ·rename_i hsm
      cases hc
      exact ⟨t,parts,b,ho,ht,he,hps,hsm⟩
     ·cases hc
    ·cases hc
   ·cases hc
  ·cases hc
 all_goals ((repeat' split at hc)<;>first|(cases hc;done)|(simp at hc;done))
theorem made_run {P:Program} {o:Oper} {d:DOp} (hc:compOp P o=some d) (ha:d.cls=.alloc) {c:Ctx} {env:Env} {a:Act} (hE:EnvR c env a) {ety sz:Nat} {xs:List DV} (hm:made env d=some (ety,sz,xs)) :
  ∃ w' cur val,(execOp a.eval o).run P c.w=.ok (.value val) w'∧w'.heap.size=c.w.heap.size+1∧(∀k,k<c.w.heap.size→w'.heap[k]?=c.w.heap[k]?)∧Quiet c.w w' ∧
   w'.heap[c.w.heap.size]?=some (.cells cur ety (0,0))∧0<sz∧cur.size=xs.length*sz∧OneRow cur∧ElemsR c xs sz cur 0 ∧
   ∀(c':Ctx) (id:Nat),c'.ρ id=some (c.w.heap.size,0)→c'.w.shape? c.w.heap.size=some (ety,xs.length*sz)→VR c' (madeV id d) val:=by
 rcases cls_made ha with ⟨ety',sz',z,rfl⟩|⟨ety',sz',z,len,ps,rfl⟩
 ·simp only [made,Option.some.injEq,Prod.mk.injEq]at hm
  obtain ⟨rfl,rfl,rfl⟩:=hm
  obtain ⟨ho,bytes,he⟩:=compOp_alloc hc
  obtain ⟨i,z0,hi,e1,e2,hz,hzd,hsz,hst⟩:=elem_facts he
  have hel:=elemsR_one (c:=c) hst (constD_VR hzd c)
  have hcells:=(storable_cells (c:=c) hst (constD_VR hzd c)).2.1
  refine ⟨{c.w with heap:=c.w.heap.push (.cells z0.cells ety')},z0.cells,.pointer (some ⟨c.w.heap.size,0,none⟩),?_,by simp,fun k hk=>by rw [Array.getElem?_push];simp;omega,.push (ob:=.cells z0.cells ety') rfl rfl rfl rfl,by simp,hsz,by simp [hcells],oneRow_full (m:=1) hel hsz (by omega) rfl,hel,fun c' id h1 _=>?_⟩
  ·simp [execOp,ho,Instr.alloc,zeroValue,typeInfo,hi,hz,newVar,newRow]
  ·have:=VR.ptr (c:=c') (id:=id) (sz:=sz') (idx:=0) (off:=0) (b:=c.w.heap.size) (base:=0) h1
   simpa [madeV] using this
 ·simp only [made,Option.map_eq_some_iff]at hm
  obtain ⟨xs',hxs,hm⟩:=hm
  simp only [Prod.mk.injEq]at hm
  obtain ⟨rfl,rfl,rfl⟩:=hm
  obtain ⟨t,parts,bytes,ho,ht,he,hp,hsmall⟩:=compOp_buildSlice hc
  obtain ⟨w',cur,r1,r2,r3,r4,r5,r6,r7⟩:=run_built (P:=P) (o:=o) (c:=c) (env:=env) (a:=a) ho ht he hp hsmall hE hxs
  refine ⟨w',cur,.slice (some ⟨c.w.heap.size,0,none⟩) len len,r1,by rw [r2];simp,fun k hk=>by rw [r2,Array.getElem?_push];simp;omega,.push (ob:=.cells cur ety') r2 rfl r3.1 r3.2,by rw [r2];simp,r4,r5,r6,r7,fun c' id h1 h2=>?_⟩
  have hlen:xs'.length=len:=by have:=fillElems_length _ hxs;rw [List.length_replicate]at this;exact this
  exact .sl h1 h2 (by rw [hlen];simp) (Nat.le_refl _) (.inl (by simp))
def Li (listed:Array Bool) (i:Nat):Prop:=listed.getD i false=true
section
variable (ops:List Oper) (dis:List (Nat×DOper)) (EN:Nat→Env) (HS:Nat→List Heap) (V:Nat→DV) (B:Nat→Bool) (c:Ctx) (env:Env)
structure InvE (listed:Array Bool) (a:Act) (ĉ:Ctx) (m0:Nat):Prop where
 size:listed.size=ops.length
 closed:∀j o,ops[j]?=some o→Li listed j→∀e,e∈o.after.toList→Region.binds .any e=true→Li listed e.on
 asize:a.tmps.size=env.length
 defers:a.defers=[]
 vals:∀(p:Nat) (x:Nat×DOper) (t:Nat),dis[p]?=some x→Li listed x.1→x.2.dst=some t→t<env.length→VR (ĉ.cut (max (headH (HS (p+1))).n m0)) (V p) (a.tmps.getD t Go.undef)
 olds:∀t,(∀(p:Nat) (x:Nat×DOper),dis[p]?=some x→Li listed x.1→x.2.dst≠some t)→VR (ĉ.cut (max (headH (HS 0)).n m0)) ((env[t]?).getD .unk) (a.tmps.getD t Go.undef)
structure InvM (listed:Array Bool) (k:Nat) (ĉ:Ctx):Prop where
 k_le:k≤dis.length
 front:∀(p:Nat) (x:Nat×DOper),p<k→dis[p]?=some x→x.2.kind≠.read→Li listed x.1
 rel:Rel (headH (HS k)) (ĉ.cut (headH (HS k)).n)
 le:CtxLe c (ĉ.cut (headH (HS k)).n)
 X:ĉ.X=c.X
 E:∀b,ĉ.E b→c.E b∨∃ id,(headH (HS k)).n≤id∧ĉ.ρ id=some (b,0)
 cE:∀b,c.E b→ĉ.E b
 dom:∀id b x,(headH (HS k)).n≤id→ĉ.ρ id=some (b,x)→ĉ.E b∧¬c.E b∧∃ (p:Nat) (y:Nat×DOper),k≤p∧dis[p]?=some y∧Li listed y.1∧y.2.kind≠.read∧B p=true∧id=(headH (HS p)).n
 pend:∀(p:Nat) (x:Nat×DOper),k≤p→dis[p]?=some x→x.2.kind≠.read→Li listed x.1→x.2.op.cls=.alloc ∧
  (B p=true→∃ ety sz xs b,made (EN p) x.2.op=some (ety,sz,xs)∧ĉ.ρ (headH (HS p)).n=some (b,0)∧FreshR (ĉ.cut (headH (HS p)).n) b ety sz xs)
 inj:∀id id' b,(headH (HS k)).n≤id→(headH (HS k)).n≤id'→ĉ.ρ id=some (b,0)→ĉ.ρ id'=some (b,0)→id=id'
end
section
variable {P:Program} {call:CallF} {ops:List Oper} {dis:List (Nat×DOper)} {bs:List Nat} {E:Nat→Env} {HS:Nat→List Heap} {LS:Nat→DLog} {V:Nat→DV} {B:Nat→Bool} {c ĉ:Ctx} {env:Env} {h:Heap}
 {listed:Array Bool} {a:Act} {k m0:Nat}
theorem Li_lt {i:Nat} (hl:Li listed i):i<listed.size:=by
 rcases Nat.lt_or_ge i listed.size with h|h
 ·exact h
 ·simp [Li,h]at hl
theorem Li_set {i j:Nat} (hj:j<listed.size):Li (listed.setIfInBounds j true) i↔Li listed i∨i=j:=by
 unfold Li
 by_cases e:i=j
 ·subst e;simp [hj]
 ·have:(listed.setIfInBounds j true).getD i false=listed.getD i false:=getD_set_ne false (Ne.symm e)
  rw [this];simp [e]
theorem sure_listed (F:Fit P ops dis bs) (I:InvE ops dis HS V env listed a ĉ m0):∀j,Li listed j→∀i,i<ops.length→bitAt bs j i=true→Li listed i:=by
 intro j
 induction j using Nat.strongRecOn with
 | _ j ih =>
  intro hj i hi hb
  have hlt:j<ops.length:=by rw [←I.size];exact Li_lt hj
  obtain ⟨e,h1,h2,h3⟩:=F.clos j ops[j] i (List.getElem?_eq_getElem hlt) hi hb
  have h4:=I.closed j ops[j] (List.getElem?_eq_getElem hlt) hj e h1 h2
  rcases h3 with h3|h3
  ·rw [←h3];exact h4
  ·exact ih e.on (F.edge j ops[j] e (List.getElem?_eq_getElem hlt) h1 h2).2 h4 i hi h3
structure Up (ops:List Oper) (dis:List (Nat×DOper)) (listed:Array Bool) (q:Nat) (x:Nat×DOper) (o:Oper):Prop where
 hx:dis[q]?=some x
 ho:ops[x.1]?=some o
 not:¬Li listed x.1
 all:∀e,e∈o.after.toList→Region.binds .any e=true→Li listed e.on
theorem ready_sure (F:Fit P ops dis bs) (I:InvE ops dis HS V env listed a ĉ m0) {q:Nat} {x:Nat×DOper} {o:Oper} (U:Up ops dis listed q x o) {i:Nat} (hi:i<ops.length) (hb:bitAt bs x.1 i=true):Li listed i:=by
 obtain ⟨e,h1,h2,h3⟩:=F.clos x.1 o i U.ho hi hb
 rcases h3 with h3|h3
 ·rw [←h3];exact U.all e h1 h2
 ·exact sure_listed F I e.on (U.all e h1 h2) i hi h3
theorem fit_lt (F:Fit P ops dis bs) {p:Nat} {x:Nat×DOper} (hx:dis[p]?=some x):x.1<ops.length:=by
 obtain ⟨o,_,_,_,ho,_⟩:=F.comp p x hx
 exact (List.getElem?_eq_some_iff.1 ho).1
theorem fit_inj (F:Fit P ops dis bs) {p q:Nat} {x y:Nat×DOper} (hx:dis[p]?=some x) (hy:dis[q]?=some y) (he:x.1=y.1):p=q:=by
 rcases Nat.lt_trichotomy p q with h|h|h
 ·exact absurd he (F.pair p q x y h hx hy).1
 ·exact h
 ·exact absurd he.symm (F.pair q p y x h hy hx).1
theorem fit_dst (F:Fit P ops dis bs) {p q:Nat} {x y:Nat×DOper} (hpq:p<q) (hx:dis[p]?=some x) (hy:dis[q]?=some y) {t:Nat} (ht:x.2.dst=some t):y.2.dst≠some t:=by
 have h:=(F.pair p q x y hpq hx hy).2.2
 simp only [pairOk,Bool.and_eq_true]at h
 have h2:=h.1.1.1.2
 intro e
 simp [ht,e]at h2
theorem fit_free (F:Fit P ops dis bs) {p q:Nat} {x y:Nat×DOper} (hpq:p<q) (hx:dis[p]?=some x) (hy:dis[q]?=some y) (hb:bitAt bs y.1 x.1=false):freeP x.2 y.2=true:=by
 have h:=(F.pair p q x y hpq hx hy).2.2
 simp only [pairOk,Bool.and_eq_true,hb,Bool.false_or]at h
 exact h.1.1.1.1
theorem free_clash {x y:DOper} (h:freeP x y=true):clash x y=false:=by
 simp only [freeP,Bool.and_eq_true,Bool.not_eq_true']at h
 exact h.1
theorem map_get {p:Nat} {x:Nat×DOper} (hx:dis[p]?=some x):(dis.map (·.2))[p]?=some x.2:=by simp [hx]
theorem get_map {p:Nat} {d:DOper} (hd:(dis.map (·.2))[p]?=some d):∃ x,dis[p]?=some x∧x.2=d:=by
 simp only [List.getElem?_map,Option.map_eq_some_iff]at hd
 exact hd
theorem vals_at (F:Fit P ops dis bs) (T:Trace call (dis.map (·.2)) env [h] .start E HS LS V B) (hc:CallKeeps call) (hl:h.lim≤h.n) (I:InvE ops dis HS V env listed a ĉ m0) {q:Nat} {x:Nat×DOper} {o:Oper} (U:Up ops dis listed q x o)
  {t:Nat} (ht:t∈x.2.reads):VR (ĉ.cut (max (headH (HS q)).n m0)) (((E q)[t]?).getD .unk) (a.tmps.getD t Go.undef):=by
 have hq:q<dis.length:=(List.getElem?_eq_some_iff.1 U.hx).1
 have hq':q≤(dis.map (·.2)).length:=by simp;omega
 by_cases hw:∃ (p:Nat) (y:Nat×DOper),p<q∧dis[p]?=some y∧y.2.dst=some t
 ·obtain ⟨p,y,hp,hy,hd⟩:=hw
  have hb:bitAt bs x.1 y.1=true:=by
   cases hb:bitAt bs x.1 y.1 with
   | true=>rfl
   | false =>
    have h1:=free_clash (fit_free F hp hy U.hx hb)
    simp only [clash,hd,Bool.or_eq_false_iff]at h1
    have h2:=h1.1.1
    rw [List.contains_eq_mem]at h2
    simp [ht]at h2
  have hly:=ready_sure F I U (fit_lt F hy) hb
  by_cases hlt:t<env.length
  ·rw [T.new (map_get hy) hd hlt q hp hq' (fun p' d' a1 a2 hd'=>by
    obtain ⟨y',e1,e2⟩:=get_map hd'
    subst e2
    exact fit_dst F a1 hy e1 hd)]
   have hn:=(T.keeps hc hl (by omega:p+1≤q) hq').n
   exact (I.vals p y t hy hly hd hlt).mono (cut_le (by omega))
  ·rw [List.getElem?_eq_none (by rw [T.len q hq'];omega)]
   exact .unk _
 ·rw [T.old q hq' (fun p d hp hd e=>by
   obtain ⟨y,e1,e2⟩:=get_map hd
   subst e2
   exact hw ⟨p,y,hp,e1,e⟩)]
  have hn:=(T.keeps hc hl (Nat.zero_le q) hq').n
  refine (I.olds t fun p y hy hly hd=>?_).mono (cut_le (by omega))
  rcases Nat.lt_trichotomy p q with hp|hp|hp
  ·exact hw ⟨p,y,hp,hy,hd⟩
  ·subst hp
   have:y=x:=Option.some.inj (hy.symm.trans U.hx)
   subst this
   exact U.not hly
  ·cases hb:bitAt bs y.1 x.1 with
   | true=>exact U.not (sure_listed F I y.1 hly x.1 (fit_lt F U.hx) hb)
   | false =>
    have h1:=free_clash (fit_free F hp U.hx hy hb)
    simp only [clash,hd,Bool.or_eq_false_iff]at h1
    have h2:=h1.2
    rw [List.contains_eq_mem]at h2
    simp [ht]at h2
def maskE (env:Env) (ts:List Nat):Env:=(List.range env.length).map fun t=>if t∈ts then (env[t]?).getD .unk else .unk
theorem maskE_agree {env:Env} {ts:List Nat}:Agree ts env (maskE env ts):=by
 intro t ht
 by_cases hlt:t<env.length
 ·simp [maskE,hlt,ht]
 ·simp [maskE,hlt]
theorem mask_env (F:Fit P ops dis bs) (T:Trace call (dis.map (·.2)) env [h] .start E HS LS V B) (hc:CallKeeps call) (hl:h.lim≤h.n) (I:InvE ops dis HS V env listed a ĉ m0) {q:Nat} {x:Nat×DOper} {o:Oper} (U:Up ops dis listed q x o) :
  EnvR (ĉ.cut (max (headH (HS q)).n m0)) (maskE (E q) x.2.reads) a:=by
 have hq:q<dis.length:=(List.getElem?_eq_some_iff.1 U.hx).1
 have hq':q≤(dis.map (·.2)).length:=by simp;omega
 refine ⟨by simp [maskE,T.len q hq',I.asize],I.defers,fun t ht=>?_⟩
 simp only [maskE,List.length_map,List.length_range]at ht
 simp only [maskE,List.getElem_map,List.getElem_range]
 split
 ·rename_i hm;exact vals_at F T hc hl I U hm
 ·exact .unk _
theorem wanted_mask {g:Option (Nat×Bool)} {env:Env} {ts:List Nat} (hg:∀t w,g=some (t,w)→t∈ts):wantedD (maskE env ts) g=wantedD env g:=by
 cases g with
 | none=>rfl
 | some p =>
  obtain ⟨t,w⟩:=p
  have ht:=hg t w rfl
  have:(maskE env ts)[t]?=env[t]?:=by
   by_cases hlt:t<env.length
   ·simp [maskE,hlt,ht]
   ·simp [maskE,hlt]
  simp only [wantedD,this]
end
end Go.Dm
/-
Part 23 of "Dm": a region with an open order: how its state moves on.
-/
namespace Go.Dm
section
variable {P:Program} {call:CallF} {ops:List Oper} {dis:List (Nat×DOper)} {bs:List Nat} {E:Nat→Env} {HS:Nat→List Heap} {LS:Nat→DLog} {V:Nat→DV} {B:Nat→Bool} {c ĉ ĉ1:Ctx} {env:Env} {h:Heap}
 {listed:Array Bool} {a:Act} {k m0:Nat}
theorem getD_put (a:Act) (dst:Option Nat) (v:Value) (t:Nat):(a.put dst v).tmps.getD t Go.undef=if dst=some t∧t<a.tmps.size then v else a.tmps.getD t Go.undef:=by
 cases dst with
 | none=>simp [Act.put]
 | some d =>
  simp only [Act.put,Array.getD_eq_getD_getElem?,Array.getElem?_setIfInBounds]
  by_cases e:d=t
  ·subst e
   by_cases hlt:d<a.tmps.size
   ·simp [hlt]
   ·simp [hlt]
  ·simp [e]
theorem InvE.mark (F:Fit P ops dis bs) (I:InvE ops dis HS V env listed a ĉ m0) (hle:∀M,CtxLe (ĉ.cut M) (ĉ1.cut M)) {m1:Nat} (hm:m0≤m1) {q:Nat} {x:Nat×DOper} {o:Oper} (U:Up ops dis listed q x o) {v:Value}
  (hv:VR (ĉ1.cut (max (headH (HS (q+1))).n m1)) (V q) v):InvE ops dis HS V env (listed.setIfInBounds x.1 true) (a.put x.2.dst v) ĉ1 m1:=by
 have hlt:x.1<listed.size:=by rw [I.size];exact fit_lt F U.hx
 refine ⟨by simp [I.size],fun j o' ho' hj e he hb=>?_,?_,?_,fun p y t hy hL hd ht=>?_,fun t hno=>?_⟩
 ·rw [Li_set hlt]at hj ⊢
  rcases hj with hj|hj
  ·exact .inl (I.closed j o' ho' hj e he hb)
  ·subst hj
   have:o'=o:=Option.some.inj (ho'.symm.trans U.ho)
   subst this
   exact .inl (U.all e he hb)
 ·cases x.2.dst<;>simp [Act.put,I.asize]
 ·cases x.2.dst<;>simp [Act.put,I.defers]
 ·rw [getD_put]
  by_cases hpq:p=q
  ·subst hpq
   have:y=x:=Option.some.inj (hy.symm.trans U.hx)
   subst this
   rw [if_pos ⟨hd,by rw [I.asize];exact ht⟩]
   exact hv
  ·have hne:x.2.dst≠some t:=by
    rcases Nat.lt_or_gt_of_ne hpq with h1|h1
    ·exact fit_dst F h1 hy U.hx hd
    ·exact fun e=>fit_dst F h1 U.hx hy e hd
   rw [if_neg (fun e=>hne e.1)]
   rw [Li_set hlt]at hL
   have hL:Li listed y.1:=hL.resolve_right fun e=>hpq (fit_inj F hy U.hx e)
   exact ((I.vals p y t hy hL hd ht).mono (hle _)).mono (cut_le (by omega))
 ·rw [getD_put,if_neg (fun e=>hno q x U.hx ((Li_set hlt).2 (.inr rfl)) e.1)]
  exact ((I.olds t fun p y hy hL=>hno p y hy ((Li_set hlt).2 (.inl hL))).mono (hle _)).mono (cut_le (by omega))
theorem InvE.mono (I:InvE ops dis HS V env listed a ĉ m0) (hle:∀M,CtxLe (ĉ.cut M) (ĉ1.cut M)) {m1:Nat} (hm:m0≤m1):InvE ops dis HS V env listed a ĉ1 m1 :=
 ⟨I.size,I.closed,I.asize,I.defers,fun p x t h1 h2 h3 h4=>((I.vals p x t h1 h2 h3 h4).mono (hle _)).mono (cut_le (by omega)),fun t h1=>((I.olds t h1).mono (hle _)).mono (cut_le (by omega))⟩
theorem InvM.same (F:Fit P ops dis bs) (I:InvE ops dis HS V env listed a ĉ m0) (M:InvM dis E HS B c listed k ĉ) {q:Nat} {x:Nat×DOper} {o:Oper} (U:Up ops dis listed q x o) (hk:x.2.kind=.read) :
  InvM dis E HS B c (listed.setIfInBounds x.1 true) k ĉ:=by
 have hlt:x.1<listed.size:=by rw [I.size];exact fit_lt F U.hx
 refine ⟨M.k_le,fun p y hp hy hky=>(Li_set hlt).2 (.inl (M.front p y hp hy hky)),M.rel,M.le,M.X,M.E,M.cE,fun id b z hid hr=>?_,fun p y hp hy hky hL=>?_,M.inj⟩
 ·obtain ⟨h1,h2,p,y,h3,h4,h5,h6⟩:=M.dom id b z hid hr
  exact ⟨h1,h2,p,y,h3,h4,(Li_set hlt).2 (.inl h5),h6⟩
 ·rcases (Li_set hlt).1 hL with h1|h1
  ·exact M.pend p y hp hy hky h1
  ·have:=fit_inj F hy U.hx h1
   subst this
   have:y=x:=Option.some.inj (hy.symm.trans U.hx)
   subst this
   exact absurd hk hky
theorem InvM.idle (F:Fit P ops dis bs) (I:InvE ops dis HS V env listed a ĉ m0) (M:InvM dis E HS B c listed k ĉ) {q:Nat} {x:Nat×DOper} {o:Oper} (U:Up ops dis listed q x o) (ha:x.2.op.cls=.alloc) (hb:B q=false) :
  InvM dis E HS B c (listed.setIfInBounds x.1 true) k ĉ:=by
 have hlt:x.1<listed.size:=by rw [I.size];exact fit_lt F U.hx
 refine ⟨M.k_le,fun p y hp hy hky=>(Li_set hlt).2 (.inl (M.front p y hp hy hky)),M.rel,M.le,M.X,M.E,M.cE,fun id b z hid hr=>?_,fun p y hp hy hky hL=>?_,M.inj⟩
 ·obtain ⟨h1,h2,p,y,h3,h4,h5,h6⟩:=M.dom id b z hid hr
  exact ⟨h1,h2,p,y,h3,h4,(Li_set hlt).2 (.inl h5),h6⟩
 ·rcases (Li_set hlt).1 hL with h1|h1
  ·exact M.pend p y hp hy hky h1
  ·have:=fit_inj F hy U.hx h1
   subst this
   have:y=x:=Option.some.inj (hy.symm.trans U.hx)
   subst this
   exact ⟨ha,fun e=>by rw [hb]at e;cases e⟩
theorem InvM.skip (M:InvM dis E HS B c listed k ĉ) (hk:k<dis.length) (hh:headH (HS (k+1))=headH (HS k)) (hf:∀x:Nat×DOper,dis[k]?=some x→x.2.kind≠.read→Li listed x.1∧B k=false) :
  InvM dis E HS B c listed (k+1) ĉ:=by
 refine ⟨hk,fun p y hp hy hky=>?_,by rw [hh];exact M.rel,by rw [hh];exact M.le,M.X,by rw [hh];exact M.E,M.cE,fun id b z hid hr=>?_,fun p y hp=>M.pend p y (by omega),by rw [hh];exact M.inj⟩
 ·by_cases e:p=k
  ·subst e;exact (hf y hy hky).1
  ·exact M.front p y (by omega) hy hky
 ·rw [hh]at hid
  obtain ⟨h1,h2,p,y,h3,h4,h5,h6,h7,h8⟩:=M.dom id b z hid hr
  refine ⟨h1,h2,p,y,?_,h4,h5,h6,h7,h8⟩
  by_cases e:p=k
  ·subst e;rw [(hf y h4 h6).2]at h7;cases h7
  ·omega
theorem Rel.early {h:Heap} {c:Ctx} (hR:Rel h c) {w':World} (hsize:w'.heap.size=c.w.heap.size+1) (hframe:∀k,k<c.w.heap.size→w'.heap[k]?=c.w.heap[k]?) (hq:Quiet c.w w') :
  Rel h ⟨w',c.ρ,fun b=>c.O b∨b=c.w.heap.size,c.X,fun b=>c.E b∨b=c.w.heap.size,c.τ⟩∧CtxLe c ⟨w',c.ρ,fun b=>c.O b∨b=c.w.heap.size,c.X,fun b=>c.E b∨b=c.w.heap.size,c.τ⟩:=by
 have hle:CtxLe c ⟨w',c.ρ,fun b=>c.O b∨b=c.w.heap.size,c.X,fun b=>c.E b∨b=c.w.heap.size,c.τ⟩ :=
  ⟨fun _ _ h=>h,by simp only [hsize];omega,fun b hb _=>hframe b hb,fun b hb=>hb.imp id (fun e=>by omega),fun b e n hs=>by
   have:=shape_lt hs
   simp only [World.shape?]at hs ⊢
   rw [hframe b this];exact hs,fun _ h=>h,fun b hb hE=>⟨hE.resolve_right (by omega),hframe b hb⟩,hq,rfl⟩
 have hown:∀b,ownB h c.ρ b→b<c.w.heap.size:=fun b ⟨id,o,x,hg,ha,hr⟩=>hR.block_lt hg ha hr
 refine ⟨⟨hR.len,hR.lim,hR.dom,fun id o hg=>(hR.obj id o hg).mono hle (fun ha b x hr=>hframe b (hR.block_lt hg ha hr)),hR.inj,fun b=>?_,fun b hb hx=>?_,fun b hb=>?_,fun b hb=>?_,hR.glob.mono hle⟩,hle⟩
 ·show c.O b∨_↔ownB h c.ρ b∨(c.E b∨_)
  rw [hR.own b,or_assoc]
 ·rcases hb with hb|hb
  ·exact hR.notX b hb hx
  ·have:=hR.old b hx;omega
 ·have:=hR.old b hb
  show b<w'.heap.size
  omega
 ·rcases hb with hb|hb
  ·exact ⟨by show b<w'.heap.size;have:=(hR.pend b hb).1;omega,(hR.pend b hb).2⟩
  ·exact ⟨by show b<w'.heap.size;omega,fun ho=>by have:=hown b ho;omega⟩
theorem InvM.early (F:Fit P ops dis bs) (T:Trace call (dis.map (·.2)) env [h] .start E HS LS V B) (hc:CallKeeps call) (hl:h.lim≤h.n) (I:InvE ops dis HS V env listed a ĉ m0) (M:InvM dis E HS B c listed k ĉ)
  {q:Nat} {x:Nat×DOper} {o:Oper} (U:Up ops dis listed q x o) (hkq:k≤q) (hcls:x.2.op.cls=.alloc) {ety sz:Nat} {xs:List DV} (hmd:made (E q) x.2.op=some (ety,sz,xs)) (hb:B q=true)
  {w':World} (hsize:w'.heap.size=ĉ.w.heap.size+1) (hframe:∀k,k<ĉ.w.heap.size→w'.heap[k]?=ĉ.w.heap[k]?) (hqt:Quiet ĉ.w w') {cur:Array Value} (hnew:w'.heap[ĉ.w.heap.size]?=some (.cells cur ety (0,0))) (hs0:0<sz) (hcs:cur.size=xs.length*sz) (hone:OneRow cur) (hel:ElemsR (ĉ.cut (headH (HS q)).n) xs sz cur 0) :
  ∃ ĉ1:Ctx,ĉ1.w=w'∧(∀M,CtxLe (ĉ.cut M) (ĉ1.cut M))∧InvM dis E HS B c (listed.setIfInBounds x.1 true) k ĉ1∧ĉ1.ρ (headH (HS q)).n=some (ĉ.w.heap.size,0):=by
 have hlt:x.1<listed.size:=by rw [I.size];exact fit_lt F U.hx
 have hq:q<dis.length:=(List.getElem?_eq_some_iff.1 U.hx).1
 have hq':q<(dis.map (·.2)).length:=by simp;omega
 have hnk:(headH (HS k)).n≤(headH (HS q)).n:=(T.keeps hc hl hkq (by omega)).n
 have hkind:∀(p:Nat) (y:Nat×DOper),dis[p]?=some y→y.2.op.cls=.alloc→y.2.kind=.create:=fun p y hy ha=>by
  have:=F.kind p y hy
  unfold kindFits at this
  rw [ha]at this
  cases hk:y.2.kind<;>rw [hk]at this<;>first|rfl|cases this
 have apart:∀(p p':Nat) (y y':Nat×DOper),dis[p]?=some y→dis[p']?=some y'→y.2.op.cls=.alloc→B p=true→p<p'→(headH (HS p)).n<(headH (HS p')).n:=by
  intro p p' y y' hy hy' ha hB hpp
  obtain ⟨e',s',xs',_,_,h1⟩:=T.alloc (map_get hy) ha (hkind p y hy ha) hB
  have hp':p'<(dis.map (·.2)).length:=by simp;exact (List.getElem?_eq_some_iff.1 hy').1
  have h2:=(T.keeps hc hl (by omega:p+1≤p') (by omega)).n
  rw [h1,n_push]at h2
  omega
 have hnone:ĉ.ρ (headH (HS q)).n=none:=by
  cases hr:ĉ.ρ (headH (HS q)).n with
  | none=>rfl
  | some pr =>
   obtain ⟨b,x0⟩:=pr
   obtain ⟨_,_,p,y,h3,h4,h5,h6,h7,h8⟩:=M.dom _ b x0 hnk hr
   have ha:=(M.pend p y h3 h4 h6 h5).1
   rcases Nat.lt_trichotomy p q with hh|hh|hh
   ·have:=apart p q y x h4 U.hx ha h7 hh;omega
   ·subst hh
    have:y=x:=Option.some.inj (h4.symm.trans U.hx)
    subst this
    exact absurd h5 U.not
   ·have:=apart q p x y U.hx h4 hcls hb hh;omega
 let ĉ1:Ctx:=⟨w',fun id=>if id=(headH (HS q)).n then some (ĉ.w.heap.size,0) else ĉ.ρ id,fun b=>ĉ.O b∨b=ĉ.w.heap.size,ĉ.X,fun b=>ĉ.E b∨b=ĉ.w.heap.size,ĉ.τ⟩
 have hrho:∀id p,ĉ.ρ id=some p→ĉ1.ρ id=some p:=fun id p hp=>by
  have:id≠(headH (HS q)).n:=fun e=>by subst e;rw [hnone]at hp;cases hp
  simp only [ĉ1,if_neg this];exact hp
 obtain ⟨hrel,hle0⟩:=M.rel.early (w':=w') hsize hframe hqt
 have hcut:ĉ1.cut (headH (HS k)).n=⟨w',(ĉ.cut (headH (HS k)).n).ρ,fun b=>ĉ.O b∨b=ĉ.w.heap.size,ĉ.X,fun b=>ĉ.E b∨b=ĉ.w.heap.size,ĉ.τ⟩:=by
  have:(fun id=>if id<(headH (HS k)).n then ĉ1.ρ id else none)=(ĉ.cut (headH (HS k)).n).ρ:=by
   funext id
   simp only [Ctx.cut]
   split
   ·have:id≠(headH (HS q)).n:=by omega
    simp only [ĉ1,if_neg this]
   ·rfl
  simp only [Ctx.cut]at this ⊢
  rw [this]
 have hleM:∀M,CtxLe (ĉ.cut M) (ĉ1.cut M):=fun M =>
  ⟨fun id p hp=>by
   obtain ⟨h1,h2⟩:=cut_some hp
   rw [cut_lt h1];exact hrho id p h2,hle0.size,hle0.frame,hle0.own,hle0.shape,hle0.X,hle0.pend,hle0.quiet,hle0.tok⟩
 have hElt:∀b,ĉ.E b→b<ĉ.w.heap.size:=fun b hb=>(M.rel.pend b hb).1
 refine ⟨ĉ1,rfl,hleM,⟨M.k_le,fun p y hp hy hky=>(Li_set hlt).2 (.inl (M.front p y hp hy hky)),by rw [hcut];exact hrel,M.le.trans (hleM _),M.X,fun b hE=>?_,fun b hE=>.inl (M.cE b hE),fun id b z' hid hr=>?_,fun p y hp hy hky hL=>?_,fun id id' b h1 h2 h3 h4=>?_⟩,by simp [ĉ1]⟩
 ·rcases hE with hE|hE
  ·exact (M.E b hE).imp (fun x=>x) fun ⟨id,h1,h2⟩=>⟨id,h1,hrho id _ h2⟩
  ·subst hE;exact .inr ⟨(headH (HS q)).n,hnk,by simp [ĉ1]⟩
 ·by_cases e:id=(headH (HS q)).n
  ·simp only [ĉ1,if_pos e,Option.some.injEq,Prod.mk.injEq]at hr
   refine ⟨.inr hr.1.symm,fun hE=>?_,q,x,hkq,U.hx,(Li_set hlt).2 (.inr rfl),?_,hb,e⟩
   ·have:=hElt b (M.cE b hE);omega
   ·rw [hkind q x U.hx hcls];simp
  ·simp only [ĉ1,if_neg e]at hr
   obtain ⟨g1,g2,p,y,g3,g4,g5,g6⟩:=M.dom id b z' hid hr
   exact ⟨.inl g1,g2,p,y,g3,g4,(Li_set hlt).2 (.inl g5),g6⟩
 ·rcases (Li_set hlt).1 hL with h1|h1
  ·obtain ⟨g1,g2⟩:=M.pend p y hp hy hky h1
   refine ⟨g1,fun hB=>?_⟩
   obtain ⟨e',s',xs',b,f1,f2,f3⟩:=g2 hB
   have hp':p<(dis.map (·.2)).length:=by simp;exact (List.getElem?_eq_some_iff.1 hy).1
   have hE:=(M.dom _ b 0 (T.keeps hc hl hp (by omega)).n f2).1
   exact ⟨e',s',xs',b,f1,hrho _ _ f2,f3.mono (hleM _) (hframe b (hElt b hE))⟩
  ·have:=fit_inj F hy U.hx h1
   subst this
   have:y=x:=Option.some.inj (hy.symm.trans U.hx)
   subst this
   exact ⟨hcls,fun _=>⟨ety,sz,xs,_,hmd,by simp [ĉ1],cur,hs0,hcs,hone,fun i hi=>⟨(hel i hi).1,fun j hj=>by
    obtain ⟨v,a1,a2,a3⟩:=(hel i hi).2 j hj
    exact ⟨v,a1,a2,a3.mono (hleM _)⟩⟩,hnew⟩⟩
 ·by_cases e1:id=(headH (HS q)).n<;>by_cases e2:id'=(headH (HS q)).n
  ·omega
  ·simp only [ĉ1,if_pos e1,if_neg e2,Option.some.injEq,Prod.mk.injEq]at h3 h4
   have:=hElt b (M.dom _ b 0 h2 h4).1
   omega
  ·simp only [ĉ1,if_neg e1,if_pos e2,Option.some.injEq,Prod.mk.injEq]at h3 h4
   have:=hElt b (M.dom _ b 0 h1 h3).1
   omega
  ·simp only [ĉ1,if_neg e1,if_neg e2]at h3 h4
   exact M.inj id id' b h1 h2 h3 h4
end
end Go.Dm
