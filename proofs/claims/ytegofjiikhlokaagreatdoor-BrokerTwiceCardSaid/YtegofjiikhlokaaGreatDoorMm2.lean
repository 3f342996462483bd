/- A part of the proof. -/
import Derived.Test.YtegofjiikhlokaaGreatDoorMm1
set_option linter.all false
namespace Go.Dm
def mZ:DOp→Bool
 | .alloc ..|.box ..|.buildSlice ..|.store ..|.append ..|.appendZ ..|.copy ..|.clear ..|.makeSlice ..|.makeMap|.mapUpdate ..|.delete ..|.call ..=>true
 | _=>false
def T4(P:Program)(h:aA)(c:Ctx)(o:Oper)(a:Act)(h':aA)(r:DV)(d:DOp):Prop :=
 match mZ d with
 | true=>jA P h c o a h' r
 | false=>bP P h c o a h' r
section
variable {P:Program} {h h':aA} {c:Ctx} {env:Env} {a:Act} {o:Oper} {r:DV}
theorem UL{d:DOp}(hc:mM P o=some d)(hnc:∀f as,d≠.call f as)(hR:Rel h c)(hE:eF c env a)(hs:aK h env d=some (r,h')):T4 P h c o a h' r d:=by
 unfold mM at hc
 split at hc
 ·rename_i x ho
  simp only[Option.map_eq_some_iff]at hc
  obtain⟨x',hx,rfl⟩:=hc
  exact KL (.inl ho) hx hR hE hs
 ·rename_i x ho
  simp only[Option.map_eq_some_iff]at hc
  obtain⟨x',hx,rfl⟩:=hc
  exact KL (.inr ho) hx hR hE hs
 ·rename_i x y z ho
  split at hc
  ·rename_i x' y' z' hx hy hz;cases hc;exact YC ho hx hy hz hR hE hs
  ·cases hc
 ·rename_i e ho
  split at hc
  ·rename_i sz b z he;cases hc;exact QZ ho he hR hE hs
  ·cases hc
 ·rename_i e x ho
  split at hc
  ·rename_i sz b z x' he hx;cases hc;exact AbD ho he hx hR hE hs
  ·cases hc
 ·rename_i t parts ho
  split at hc
  ·rename_i fs sz b z ht he
   split at hc
   ·rename_i ps hp
    split at hc
    ·rename_i lA;cases hc;exact Mo ho ht he hp lA hR hE hs
    ·cases hc
   ·cases hc
  ·rename_i n e sz b z ht he
   split at hc
   ·rename_i esz eb ez Oh
    split at hc
    ·rename_i ps hp;cases hc;exact Rj ho ht he Oh hp hR hE hs
    ·cases hc
   ·cases hc
  ·cases hc
 ·rename_i t len parts ho
  split at hc
  ·rename_i e ht
   split at hc
   ·rename_i sz b z he
    split at hc
    ·rename_i ps hp
     split at hc
     ·rename_i hsm;cases hc;exact Ri ho ht he hp hsm hR hE hs
     ·cases hc
    ·cases hc
   ·cases hc
  ·cases hc
 ·rename_i t x ho
  split at hc
  ·rename_i n x' hn hx;cases hc;exact YD ho hn hx hR hE hs
  ·cases hc
 ·rename_i t x y ho
  split at hc
  ·rename_i i x' y' hi hx hy
   split at hc
   ·cases hc;exact QU ho hi hx hy hR hE hs
   ·cases hc
  ·cases hc
 ·rename_i x ho
  simp only[Option.map_eq_some_iff]at hc
  obtain⟨x',hx,rfl⟩:=hc
  exact I3 ho hx hR hE hs
 ·rename_i op t x y u ho
  split at hc
  ·rename_i x' y' hx hy
   split at hc
   ·cases hc;exact X8 ho hx hy hR hE hs
   ·cases hc;exact X8 ho hx hy hR hE hs
   ·rename_i hu
    split at hc
    ·cases hc;exact UO (neq:=false) (by simpa using ho) hu hx hy hR hE hs
    ·cases hc;exact UO (neq:=true) (by simpa using ho) hu hx hy hR hE hs
    ·cases hc
   ·rename_i fs hu
    split at hc
    ·rename_i ks hk;cases hc;exact X7 (neq:=false) (by simpa using ho) (by simp[eT,hu]) hk hx hy hR hE hs
    ·rename_i ks hk;cases hc;exact X7 (neq:=true) (by simpa using ho) (by simp[eT,hu]) hk hx hy hR hE hs
    ·cases hc
   ·rename_i n e hu
    split at hc
    ·rename_i ks hk;cases hc;exact X7 (neq:=false) (by simpa using ho) (by simp[eT,hu]) hk hx hy hR hE hs
    ·rename_i ks hk;cases hc;exact X7 (neq:=true) (by simpa using ho) (by simp[eT,hu]) hk hx hy hR hE hs
    ·cases hc
   ·rename_i desc _ _ _ _ _ hu
    split at hc
    ·rename_i k hk
     split at hc
     ·rename_i zA
      split at hc
      ·cases hc;exact UN (neq:=false) (by simpa using ho) hu hk zA hx hy hR hE hs
      ·cases hc;exact UN (neq:=true) (by simpa using ho) hu hk zA hx hy hR hE hs
      ·cases hc
     ·cases hc
    ·cases hc
   ·cases hc
  ·cases hc
 ·rename_i op t x ho
  simp only[Option.map_eq_some_iff]at hc
  obtain⟨x',hx,rfl⟩:=hc
  exact s_un ho hx hR hE hs
 ·rename_i src dst x ho
  split at hc
  ·rename_i k0 k x' h1 h2 hx;cases hc;exact YF ho h1 h2 hx hR hE hs
  ·rename_i x' h1 h2 hx;cases hc;exact QY ho h1 h2 hx hR hE hs
  ·cases hc;exact(Bb hs).elim
 ·rename_i f first cap ho
  split at hc
  ·rename_i hf
   split at hc
   ·rename_i c' kM;cases hc;exact I4 ho hf kM hR hE hs
   ·cases hc
  ·cases hc
 ·rename_i s x f ho
  split at hc
  ·rename_i fs x' hu hx
   split at hc
   ·rename_i fl hf
    split at hc
    ·rename_i i hi
     split at hc
     ·rename_i fP;cases hc;exact Wa ho hu hf hi fP hx hR hE hs
     ·cases hc
    ·cases hc
   ·cases hc
  ·cases hc
 ·rename_i s x f ho
  split at hc
  ·rename_i fs x' hu hx
   split at hc
   ·rename_i fl hf
    split at hc
    ·rename_i n hn;cases hc;exact QW ho hu hf hn hx hR hE hs
    ·cases hc
   ·cases hc
  ·cases hc
 ·rename_i t x i ho
  split at hc
  ·rename_i e x' i' hu hx hi
   split at hc
   ·rename_i fi xJ
    split at hc
    ·rename_i fP;cases hc;exact Vz ho hu xJ fP hx hi hR hE hs
    ·cases hc
   ·cases hc
  ·rename_i len e x' i' hu hx hi
   split at hc
   ·rename_i fi xJ
    split at hc
    ·rename_i fP;cases hc;exact I6 ho hu xJ hx hi hR hE hs
    ·cases hc
   ·cases hc
  ·cases hc
 ·rename_i t x i ho
  split at hc
  ·rename_i len e x' i' hu hx hi
   split at hc
   ·rename_i fi n xJ hn;cases hc;exact QV ho hu xJ hn hx hi hR hE hs
   ·cases hc
  ·rename_i x' i' hu hx hi;cases hc;exact I5 ho hu hx hi hR hE hs
  ·cases hc
 ·rename_i t x lo hi ho
  split at hc
  ·rename_i x' lo' gJ hu hx dS Ha;cases hc;exact I2 ho hu hx dS Ha hR hE hs
  ·rename_i e x' lo' gJ hu hx dS Ha
   split at hc
   ·rename_i fi xJ
    split at hc
    ·rename_i fP;cases hc;exact DB ho hu xJ fP hx dS Ha hR hE hs
    ·cases hc
   ·cases hc
  ·cases hc
 ·rename_i t x lo hi mx ho
  split at hc
  ·rename_i e x' lo' gJ mx' hu hx dS Ha hmx
   split at hc
   ·rename_i fi xJ;cases hc;exact KK ho hu xJ hx dS Ha hmx hE hs
   ·cases hc
  ·cases hc
 ·rename_i t l m ho
  split at hc
  ·rename_i e hu
   split at hc
   ·rename_i sz b z l' m' he hl hm;cases hc;exact Vx ho hu he hl hm hR hE hs
   ·cases hc
  ·cases hc
 ·rename_i t ho
  cases hc;exact DC ho hR hE hs
 ·rename_i t m k ok ho
  split at hc
  ·rename_i key e hu
   split at hc
   ·rename_i sz b z m' k' q he hm hk hq;cases hc;exact KM ho hu he hq hm hk hR hE hs
   ·cases hc
  ·cases hc
 ·rename_i t m k x ho
  split at hc
  ·rename_i key e hu
   split at hc
   ·rename_i m' k' x' q hm hk hx hq;cases hc;exact Ft (.inl ho) hu hq hm hk hx hR hE hs
   ·cases hc
  ·cases hc
 ·rename_i t m k x ho
  split at hc
  ·rename_i key e hu
   split at hc
   ·rename_i m' k' x' q hm hk hx hq;cases hc;exact Ft (.inr ho) hu hq hm hk hx hR hE hs
   ·cases hc
  ·cases hc
 ·rename_i x i ho
  simp only[Option.map_eq_some_iff]at hc
  obtain⟨x',hx,rfl⟩:=hc
  exact DD ho hx hR hE hs
 ·rename_i t x ho
  split at hc
  ·cases hc
  ·rename_i desc x' hni hu hx
   cases hc
   exact Vy ho hu (fun ms e=>hni ms (e ▸ rfl)) hx hR hE hs
  ·cases hc
 ·rename_i b args ats ho
  have conv1:∀{x:Operand} {t:TypeId},args.toList=[x]→ats.toList=[t]→o.op=.call {callee:=.builtin b,args:=#[x],argTypes:=#[t]}:=by
   intro x t h1 h2
   rw[ho]
   have e1:args=#[x]:=by apply Array.ext';simpa using h1
   have e2:ats=#[t]:=by apply Array.ext';simpa using h2
   rw[e1,e2]
  have conv2:∀{x y:Operand} {t u:TypeId},args.toList=[x,y]→ats.toList=[t,u]→o.op=.call {callee:=.builtin b,args:=#[x,y],argTypes:=#[t,u]}:=by
   intro x y t u h1 h2
   rw[ho]
   have e1:args=#[x,y]:=by apply Array.ext';simpa using h1
   have e2:ats=#[t,u]:=by apply Array.ext';simpa using h2
   rw[e1,e2]
  have conv3:∀{x y:Operand},args.toList=[x,y]→o.op=.call {callee:=.builtin b,args:=#[x,y],argTypes:=ats}:=by
   intro x y h1
   rw[ho]
   have e1:args=#[x,y]:=by apply Array.ext';simpa using h1
   rw[e1]
  split at hc
  ·rename_i x t ha ht
   split at hc
   ·rename_i x' hu hx;cases hc;exact KO (conv1 ha ht) hu rfl hx hR hE hs
   ·rename_i e x' hu hx;cases hc;exact KO (conv1 ha ht) hu rfl hx hR hE hs
   ·rename_i k e x' hu hx;cases hc;exact KO (conv1 ha ht) hu rfl hx hR hE hs
   ·rename_i n e x' hu hx;cases hc;exact KN (_x':=x') (conv1 ha ht) hu hR hE hs
   ·cases hc
  ·rename_i x t ha ht
   split at hc
   ·rename_i e x' hu hx;cases hc;exact AbC (conv1 ha ht) hu hx hR hE hs
   ·cases hc
  ·rename_i s x t u ha ht
   split at hc
   ·rename_i e hu
    split at hc
    ·rename_i sz b' z s' x' e' he Ga hx hu'
     split at hc
     ·rename_i Oh;subst Oh;cases hc;exact KP (conv2 ha ht) hu hu' he Ga hx hR hE hs
     ·cases hc
    ·rename_i sz b' z s' x' k he Ga hx hu';cases hc;exact DE (conv2 ha ht) hu hu' he Ga hx hR hE hs
    ·cases hc
   ·cases hc
  ·rename_i d s t u ha ht
   split at hc
   ·rename_i e e' hu hu'
    split at hc
    ·rename_i fi d' s' xJ hd Ga
     split at hc
     ·cases hc;exact YE (conv2 ha ht) hu xJ hd Ga hR hE hs
     ·cases hc
    ·cases hc
   ·cases hc
  ·rename_i x t ha ht
   split at hc
   ·rename_i e hu
    split at hc
    ·rename_i sz b' z x' he hx;cases hc;exact QX (conv1 ha ht) hu he hx hR hE hs
    ·cases hc
   ·cases hc
  ·rename_i x y ha
   split at hc
   ·rename_i x' y' hx hy;cases hc;exact Vw (mx:=true) (by simpa using conv3 ha) hx hy hR hE hs
   ·cases hc
  ·rename_i x y ha
   split at hc
   ·rename_i x' y' hx hy;cases hc;exact Vw (mx:=false) (by simpa using conv3 ha) hx hy hR hE hs
   ·cases hc
  ·cases hc;exact(Bb hs).elim
 ·rename_i f args ats ho
  split at hc
  ·cases hc;exact absurd rfl (hnc _ _)
  ·cases hc
 ·cases hc;exact(Bb hs).elim
theorem H5{d:DOp}(hc:mM P o=some d)(hnc:∀f as,d≠.call f as)(hR:Rel h c)(hE:eF c env a)(hs:aK h env d=some (r,h')):jA P h c o a h' r:=by
 have:=UL hc hnc hR hE hs
 unfold T4 at this
 split at this
 ·exact this
 ·exact this.toSteps1 hR
theorem K9{d:DOp}(hc:mM P o=some d)(ht:mZ d=false)(hR:Rel h c)(hE:eF c env a)(hs:aK h env d=some (r,h')):bP P h c o a h' r:=by
 have:=UL hc (fun f as e=>by subst e;simp[mZ]at ht) hR hE hs
 unfold T4 at this
 rw[ht]at this
 exact this
end
end Go.Dm
/-
Part 16 of "Dm": code brought into the machine's form.
-/
namespace Go.Dm
def Ta(ops:List Oper):Option (Nat×Bool)→Option (Option (Nat×Bool))
 | none=>some none
 | some (j,want)=>match ops[j]? with
  | some g=>match g.dst with
   | some t=>some (some (t,want))
   | none=>none
  | none=>none
def sE(P:Program)(ops:List Oper)(kind:uU)(snap:Nat)(o:Oper):Option aZ :=
 match mM P o,Ta ops o.guard with
 | some d,some g=>some {dst:=o.dst,op:=d,guard:=g,kind,snap,calm:=false}
 | _,_=>none
def bits(ops:List Oper):List Nat :=
 ops.foldl (fun eR o=>eR++[o.after.toList.foldl (fun s e=>if Region.binds .any e then s ||| 2 ^ e.on ||| eR.getD e.on 0 else s) 0]) []
inductive Cls where
 | env|read|alloc|heap
 deriving DecidableEq,Inhabited
def DOp.cls:DOp→Cls
 | .len 2 _|.load ..|.sliceSl ..|.cap ..|.lookup ..=>.read
 | .alloc ..|.buildSlice ..=>.alloc
 | d=>if mZ d then .heap else .env
def FE(cs:List Cls)(bs:List Nat):List Nat :=
 let r:=(List.range cs.length).foldl (fun(st:List Nat×List Nat) j =>
  match cs.getD j .env with
  | .env|.alloc=>(st.1,st.2++[j])
  | _=>(st.1++st.2.filter (fun i=>(bs.getD j 0).testBit i)++[j],st.2.filter fun i=>!(bs.getD j 0).testBit i)) ([],[])
 r.1++r.2
def Opd.tmps:Opd→List Nat
 | .t n=>[n]
 | .c _=>[]
def Rz:Option Opd→List Nat
 | none=>[]
 | some x=>x.tmps
def DOp.tmps:DOp→List Nat
 | .alloc ..|.makeMap=>[]
 | .move x|.box _ _ x|.load _ x|.nilCheck x|.un _ x|.conv _ x|.asStr x|.fieldAddr _ x|.field _ _ x|.len _ x|.cap x|.clear _ _ x|.extract x _|.makeIface _ x=>x.tmps
 | .pick c a b=>c.tmps++a.tmps++b.tmps
 | .build _ parts=>parts.flatMap fun p=>p.2.2.tmps
 | .buildSlice _ _ _ _ parts=>parts.flatMap fun p=>p.2.tmps
 | .store _ x y|.arith _ x y|.eqb _ x y|.eqa _ _ x y|.eqn _ _ x y|.indexAddr _ x y|.indexArr _ _ x y|.index _ _ _ x y|.indexStr x y
 | .append _ _ _ x y|.appendZ _ _ _ _ x y|.copy _ x y|.makeSlice _ _ _ _ x y|.minmax _ x y|.lookup _ _ _ x y|.delete _ x y=>x.tmps++y.tmps
 | .mapUpdate _ x y z=>x.tmps++y.tmps++z.tmps
 | .sliceStr x lo hi|.sliceSl _ x lo hi=>x.tmps++Rz lo++Rz hi
 | .slice3 x lo hi mx=>x.tmps++lo.tmps++hi.tmps++mx.tmps
 | .makeFunc _ l=>l.flatMap Opd.tmps
 | .call f as=>f.tmps++as.flatMap Opd.tmps
def aZ.reads(o:aZ):List Nat:=o.op.tmps++(match o.guard with|some (t,_)=>[t]|none=>[])
def AQ(x y:aZ):Bool :=
 (match x.dst with|some d=>y.reads.contains d || y.dst == some d|none=>false) ||
 (match y.dst with|some d=>x.reads.contains d|none=>false)
def Yi(x y:aZ):Bool :=
 !AQ x y &&
 match x.op.cls,y.op.cls with
 | .env,_|_,.env=>true
 | _,.alloc=>true
 | .alloc,.read=>true
 | .alloc,.heap=>false
 | .heap,.heap=>false
 | .read,.read=>true
 | .heap,.read=>true
 | .read,.heap=>true
def qC(d:aZ):Bool :=
 match d.op.cls,d.kind with
 | .env,.read|.read,.read|.alloc,.create|.heap,.create|.heap,.write=>true
 | _,_=>false
def wX(b:Bool)(rp:Nat)(x y:aZ):Bool :=
 (b || Yi x y) && (x.dst.isNone || x.dst != y.dst) &&
 (!(y.op.cls == .read && x.kind != .read) || (if rp<y.snap then b else x.op.cls == .alloc || (!b && x.kind == .create && decide (y.snap≤x.snap)))) &&
 (!(x.op.cls == .read && y.op.cls == .heap) || b || (y.kind == .create && decide (x.snap≤y.snap))) &&
 (!(x.calm && y.op.cls == .heap) || b)
def pA(bs:List Nat)(j i:Nat):Bool:=(bs.getD j 0).testBit i
def Eo(ds:List (Nat×aZ))(p:Nat):Nat:=((ds.take p).filter fun x=>x.2.kind != .read).length
def OC(ops:List Oper)(ds:List (Nat×aZ))(bs:List Nat):Bool :=
 ops.zipIdx.all (fun x=>x.1.after.toList.all fun e=>!Region.binds .any e || (pA bs x.2 e.on && decide (e.on<x.2))) &&
 ops.zipIdx.all (fun x=>(List.range ops.length).all fun i=>!pA bs x.2 i || x.1.after.toList.any fun e=>Region.binds .any e && (e.on == i || pA bs e.on i)) &&
 (List.range ops.length).all (fun i=>ds.any fun x=>x.1 == i) &&
 ds.all (fun x=>qC x.2) &&
 ds.zipIdx.all (fun y=>(ds.take y.2).zipIdx.all fun x=>x.1.1 != y.1.1 && !pA bs x.1.1 y.1.1 && wX (pA bs y.1.1 x.1.1) (Eo ds x.2) x.1.2 y.1.2)
def KE(cs:List Cls)(ord:List Nat)(b:Nat):Nat :=
 ((ord.filter fun i=>cs.getD i .env == .heap || cs.getD i .env == .alloc).takeWhile fun i=>b.testBit i).length
def N9(cs:List Cls)(bs:List Nat)(j:Nat):uU :=
 match cs.getD j .env with
 | .env|.read=>.read
 | .alloc=>.create
 | .heap=>if(List.range cs.length).all fun i=>cs.getD i .env != .read || (bs.getD j 0).testBit i || (bs.getD i 0).testBit j then .write else .create
def AcF(cs:List Cls)(ord:List Nat)(bs:List Nat)(j:Nat):Nat :=
 (List.range cs.length).foldl (fun s i=>if cs.getD i .env == .read && !(bs.getD j 0).testBit i && !(bs.getD i 0).testBit j then max s (KE cs ord (bs.getD i 0))else s) 0
def l6(dops:List DOp)(cs:List Cls)(bs:List Nat)(i:Nat):Bool :=
 cs.getD i .env == .read &&
 ((List.range cs.length).any fun j=>(match dops[j]? with|some (.store ..)=>true|_=>false) && N9 cs bs j == .create) &&
 (List.range cs.length).all fun j=>cs.getD j .env != .heap || (bs.getD j 0).testBit i || (bs.getD i 0).testBit j
def sD(P:Program)(ops:List Oper)(draw:Bool):Option aN :=
 if draw then
  match ops.mapM (mM P)with
  | none=>none
  | some dops =>
   let bs:=bits ops
   let cs:=dops.map DOp.cls
   let ord:=FE cs bs
   match ord.mapM (fun i=>match ops[i]? with
    | some o=>(sE P ops (N9 cs bs i) (if N9 cs bs i=uU.create then AcF cs ord bs i else KE cs ord (bs.getD i 0)) o).map fun(d:aZ)=>(i,({d with calm:=l6 dops cs bs i}:aZ))
    | none=>none)with
   | some ds=>if OC ops ds bs then some (.draw (ds.map (·.2)))else none
   | none=>none
 else match ops.mapM (sE P ops .write 0)with
  | some ds=>some (.region ds)
  | none=>none
def jG(P:Program):Code→Option aN
 | .skip=>some .skip
 | .seq a b=>match jG P a,jG P b with|some a,some b=>some (.seq a b)|_,_=>none
 | .cond c a b=>match opd c,jG P a,jG P b with|some c,some a,some b=>some (.cond c a b)|_,_,_=>none
 | .block id b=>match jG P b with|some b=>some (.block id b)|none=>none
 | .loop b=>match jG P b with|some b=>some (.loop b)|none=>none
 | .exit id=>some (.exit id)
 | .ret=>some .ret
 | .region _ ops draw=>sD P ops.toList draw
 | _=>none
def Dk(P:Program):ResultVar→Option Nl
 | .tmp t=>some (.t t)
 | .cell a t=>match nOf P t with|some n=>some (.cell a n)|none=>none
def aF(P:Program)(fn:Func)(mode:VM):Option aQ :=
 match fn.body with
 | some body=>match jG P body,fn.results.toList.mapM (Dk P)with
  | some b, some rs => if fn.name ≠ "runtime.NumGoroutine" then some { ntmps := fn.ntmps, results := rs, body := b, mode } else none
  | _,_=>none
 | none=>none
end Go.Dm
/-
Part 17 of "Dm": what an operation looks at, and what it leaves as it was.
-/
namespace Go.Dm
def mY(ts:List Nat)(env cJ:Env):Prop:=∀t,t∈ts→(env[t]?).getD .unk=(cJ[t]?).getD .unk
theorem mY.app{ts us:List Nat}{env cJ:Env}(h:mY (ts++us) env cJ):mY ts env cJ∧mY us env cJ :=
 ⟨fun t ht=>h t (List.mem_append_left _ ht),fun t ht=>h t (List.mem_append_right _ ht)⟩
theorem mY.opd{x:Opd}{env cJ:Env}(h:mY x.tmps env cJ):x.eval env=x.eval cJ:=by
 cases x with
 | t n=>exact h n (by simp[Opd.tmps])
 | c v=>rfl
theorem mY.flat{α:Type}{l:List α}{f:α→List Nat}{env cJ:Env}(h:mY (l.flatMap f) env cJ):∀x,x∈l→mY (f x) env cJ :=
 fun x hx t ht=>h t (List.mem_flatMap.2 ⟨x,hx,ht⟩)
theorem mY.bound{x:Option Opd}{env cJ:Env}(h:mY (Rz x) env cJ)(d l:Nat):bound env x d l=bound cJ x d l:=by
 cases x with
 | none=>rfl
 | some x=>simp only[Dm.bound,mY.opd (x:=x) h]
theorem By{d:DOp}{h:aA}{env cJ:Env}(hd:mY d.tmps env cJ):aK h env d=aK h cJ d:=by
 cases d<;>simp only[DOp.tmps]at hd
 case makeMap=>rfl
 case alloc=>rfl
 case call=>rfl
 case pick c a b =>
  obtain⟨hd,h3⟩:=hd.app
  obtain⟨h1,h2⟩:=hd.app
  simp only[aK,h1.opd,h2.opd,h3.opd]
 case mapUpdate q m k x =>
  obtain⟨hd,h3⟩:=hd.app
  obtain⟨h1,h2⟩:=hd.app
  simp only[aK,h1.opd,h2.opd,h3.opd]
 case build z parts =>
  have:parts.map (fun p=>(p.1,p.2.1,p.2.2.eval env))=parts.map (fun p=>(p.1,p.2.1,p.2.2.eval cJ)) :=
   List.map_congr_left fun p hp=>by rw[(hd.flat p hp).opd]
  simp only[aK,this]
 case buildSlice e s z n parts =>
  have:parts.map (fun p=>(p.1,p.2.eval env))=parts.map (fun p=>(p.1,p.2.eval cJ)) :=
   List.map_congr_left fun p hp=>by rw[(hd.flat p hp).opd]
  simp only[aK,this]
 case makeFunc f l =>
  have:l.map (Opd.eval env)=l.map (Opd.eval cJ):=List.map_congr_left fun p hp=>(hd.flat p hp).opd
  simp only[aK,this]
 case sliceStr x lo hi =>
  obtain⟨hd,h3⟩:=hd.app
  obtain⟨h1,h2⟩:=hd.app
  simp only[aK,h1.opd,h2.bound,h3.bound]
 case slice3 x lo hi mx =>
  obtain⟨hd,h4⟩:=hd.app
  obtain⟨hd,h3⟩:=hd.app
  obtain⟨h1,h2⟩:=hd.app
  have e:∀(y:Opd) d l,mY y.tmps env cJ→bound env (some y) d l=bound cJ (some y) d l:=fun y d l hy=>by simp only[Dm.bound,hy.opd]
  simp only[aK,h1.opd,e lo _ _ h2,e hi _ _ h3,e mx _ _ h4]
 case sliceSl sz x lo hi =>
  obtain⟨hd,h3⟩:=hd.app
  obtain⟨h1,h2⟩:=hd.app
  simp only[aK,h1.opd,h2.bound,h3.bound]
 all_goals first
  | simp only[aK,hd.opd]
  | (obtain⟨h1,h2⟩:=hd.app;simp only[aK,h1.opd,h2.opd])
theorem xA{d:DOp}{call:Nat→List DV→aA→Option (DV×aA)}{h:aA}{env cJ:Env}(hd:mY d.tmps env cJ):cC call d env h=cC call d cJ h:=by
 cases d
 case call f as =>
  simp only[DOp.tmps]at hd
  obtain⟨h1,h2⟩:=hd.app
  have:as.map (Opd.eval env)=as.map (Opd.eval cJ):=List.map_congr_left fun p hp=>(h2.flat p hp).opd
  simp only[cC,h1.opd,this]
 all_goals exact By hd
theorem Pd{d:DOp}{env cJ:Env}(hd:mY d.tmps env cJ):cI env d=cI cJ d:=by
 cases d<;>simp only[DOp.tmps]at hd<;>try rfl
 case load n a=>simp only[cI,hd.opd]
 case cap x=>simp only[cI,hd.opd]
 case len k x=>simp only[cI,hd.opd]
 case sliceSl sz x lo hi =>
  obtain⟨hd,h3⟩:=hd.app
  obtain⟨h1,h2⟩:=hd.app
  simp only[cI,h1.opd]
 case lookup q z ok m k =>
  obtain⟨h1,h2⟩:=hd.app
  simp only[cI,h1.opd]
theorem N4{d:DOp}{env cJ:Env}(hd:mY d.tmps env cJ):mark env d=mark cJ d:=by
 have ht:=Pd hd
 cases d<;>simp only[mark,ht]
 case load n a=>simp only[DOp.tmps]at hd;simp only[hd.opd]
theorem Xk{d:DOp}{env:Env}{r:Nat×mD}(h:mark env d=some r):cI env d=some r.1:=by
 cases d<;>simp only[mark,Option.map_eq_some_iff]at h
 case load n a =>
  simp only[cI]
  split at h
  ·rename_i he;cases h;first|rfl|rw[he]
  ·cases h
 all_goals (obtain⟨id,h1,h2⟩:=h;subst h2;exact h1)
theorem L7{L:dE}{o:DOp}{call:Nat→List DV→aA→Option (DV×aA)}{h:aA}{env:Env}{id:Nat}(hp:nW L env o=some id):cC call o env h=aK h env o:=by
 cases o<;>first|(simp only[nW]at hp;cases hp;done)|rfl
def Gu(env:Env):DOp→Option (Nat×Nat×List DV)
 | .alloc ety sz z=>some (ety,sz,[z])
 | .buildSlice ety sz z len parts=>(dY sz (List.replicate len z) (parts.map fun p=>(p.1,p.2.eval env))).map fun xs=>(ety,sz,xs)
 | _=>none
def Y6(id:Nat):DOp→DV
 | .alloc _ sz _=>.ptr id sz 0 0
 | .buildSlice _ sz _ len _=>.sl id sz 0 len
 | _=>.unk
theorem N5{d:DOp}{env cJ:Env}(hd:mY d.tmps env cJ):Gu env d=Gu cJ d:=by
 cases d<;>simp only[DOp.tmps]at hd<;>try rfl
 case buildSlice e s z n parts =>
  have:parts.map (fun p=>(p.1,p.2.eval env))=parts.map (fun p=>(p.1,p.2.eval cJ)) :=
   List.map_congr_left fun p hp=>by rw[(hd.flat p hp).opd]
  simp only[Gu,this]
theorem uO{sz:Nat}:∀(ps:List (Nat×DV)) {xs ys:List DV},dY sz xs ps=some ys→ys.length=xs.length:=by
 intro ps
 induction ps with
 | nil=>intro xs ys h;simp only[dY]at h;cases h;rfl
 | cons p ps ih =>
  intro xs ys h
  obtain⟨i,v⟩:=p
  simp only[dY]at h
  split at h
  ·rw[ih h,List.length_set]
  ·cases h
theorem Lx{d:DOp}(ha:d.cls=.alloc):(∃ ety sz z,d=.alloc ety sz z)∨∃ ety sz z len parts,d=.buildSlice ety sz z len parts:=by
 unfold DOp.cls at ha
 split at ha
 all_goals first|(cases ha;done)|exact .inl ⟨_,_,_,rfl⟩|exact .inr ⟨_,_,_,_,_,rfl⟩|skip
 split at ha<;>cases ha
theorem Fn{d:DOp}(ha:d.cls=.alloc){h h':aA}{env:Env}{v:DV}(hs:aK h env d=some (v,h')) :
  ∃ ety sz xs,Gu env d=some (ety,sz,xs)∧v=Y6 h.n d∧h'=h.push (.arr ety sz xs (some xs.length)):=by
 rcases Lx ha with⟨ety,sz,z,rfl⟩|⟨ety,sz,z,len,parts,rfl⟩
 ·simp only[aK,Option.some.injEq,Prod.mk.injEq]at hs
  obtain⟨rfl,rfl⟩:=hs
  exact⟨_,_,_,rfl,rfl,rfl⟩
 ·simp only[aK]at hs
  split at hs
  ·rename_i xs PE
   simp only[Option.some.injEq,Prod.mk.injEq]at hs
   obtain⟨rfl,rfl⟩:=hs
   refine⟨ety,sz,xs,by simp only[Gu,PE,Option.map_some],rfl,?_⟩
   have:=uO _ PE
   rw[List.length_replicate]at this
   rw[this]
  ·cases hs
theorem Iw{d:DOp}{h h2:aA}{env:Env}{v:DV}{h':aA}(hd:d.cls=.env)(hs:aK h env d=some (v,h')):aK h2 env d=some (v,h2):=by
 cases d<;>simp only[DOp.cls,mZ]at hd<;>try (cases hd)
 case len k x =>
  have hk:k≠2:=fun e=>by subst e;cases hd
  clear hd
  simp only[aK]at hs ⊢
  cases hx:x.eval env<;>rw[hx]at hs<;>simp only at hs ⊢<;>try (cases hs)
  case map id =>
   cases hg:h.get id with
   | none=>rw[hg]at hs;cases hs
   | some o=>rw[hg]at hs;cases o<;>simp only[hk,if_false]at hs<;>cases hs
  all_goals (split at hs;(rename_i e;cases hs;simp[e]);cases hs)
 case minmax mx x y =>
  simp only[aK]at hs ⊢
  split at hs
  ·rename_i h1 h2;cases hs;simp
  ·cases hs
 all_goals (simp only[aK]at hs ⊢;repeat' split at hs)<;>simp_all
def AV(h h2:aA):Prop:=∀id o,h.get id=some o→kC o=true→h2.get id=some o
def PB(d:DOp)(env:Env)(h h2:aA):Prop:=∀id o,cI env d=some id→h.get id=some o→kC o=true→h2.get id=some o
theorem AV.t{h h2:aA}(hg:AV h h2)(d:DOp)(env:Env):PB d env h h2:=fun id o _ h1 h2=>hg id o h1 h2
theorem Xn{h h2:aA}{n:Option Nat}{a v:DV}(hg:∀id sz idx off,a=.ptr id sz idx off→∀o,h.get id=some o→kC o=true→h2.get id=some o)(hs:lM h n a=some v):lM h2 n a=some v:=by
 unfold lM at hs ⊢
 split at hs
 ·split at hs
  ·rename_i hx
   rw[hg _ _ _ _ rfl _ hx rfl];exact hs
  ·cases hs
 ·exact hs
 ·cases hs
theorem zH{d:DOp}{h h2:aA}{env:Env}{v:DV}{h':aA}(hg:PB d env h h2)(hd:mZ d=false)(hs:aK h env d=some (v,h')):aK h2 env d=some (v,h2):=by
 by_cases hc:d.cls=.env
 ·exact Iw hc hs
 cases d<;>simp only[mZ]at hd<;>try (exact Bool.noConfusion hd)
 case load n a =>
  simp only[aK]at hs ⊢
  split at hs
  ·rename_i v' hl;cases hs;rw[Xn (fun id sz idx off he o h1 h2=>hg id o (by simp only[cI,he]) h1 h2) hl]
  ·cases hs
 case sliceSl sz x lo hi =>
  simp only[aK]at hs ⊢
  split at hs
  ·(repeat' split at hs)<;>simp_all
  ·(repeat' split at hs)<;>simp_all
  ·rename_i HN
   split at hs
   ·rename_i hx
    rw[hg _ _ (by simp only[cI,HN]) hx rfl]
    (repeat' split at hs)<;>first|cases hs|skip
    rename_i h1 _ _ h2 _ _ h3
    simp only[if_pos h1,h2,h3]
   ·cases hs
  ·cases hs
 case cap x =>
  simp only[aK]at hs ⊢
  split at hs
  ·cases hs;rfl
  ·rename_i HN
   split at hs
   ·rename_i hx;rw[hg _ _ (by simp only[cI,HN]) hx rfl]
    split at hs
    ·rename_i e;cases hs;simp[e]
    ·cases hs
   ·rename_i hx;rw[hg _ _ (by simp only[cI,HN]) hx rfl]
    split at hs
    ·rename_i e;cases hs;simp[e]
    ·cases hs
   ·cases hs
  ·cases hs
 case len k x =>
  simp only[aK]at hs ⊢
  cases hx:x.eval env<;>rw[hx]at hs<;>simp only at hs ⊢<;>try (cases hs)
  case map id =>
   cases UR:h.get id with
   | none=>rw[UR]at hs;cases hs
   | some o =>
    rw[UR]at hs
    cases o<;>simp only at hs<;>try (cases hs)
    rw[hg _ _ (by simp only[cI,hx]) UR rfl]
    split at hs
    ·rename_i e;cases hs;simp[e]
    ·cases hs
  all_goals (split at hs;(rename_i e;cases hs;simp[e]);cases hs)
 case lookup q z ok m k =>
  simp only[aK]at hs ⊢
  cases hm:m.eval env<;>rw[hm]at hs<;>simp only at hs ⊢<;>try (cases hs)
  ·(repeat' split at hs)<;>simp_all
  ·rename_i id
   cases hx:h.get id with
   | none=>rw[hx]at hs;cases hs
   | some o =>
    rw[hx]at hs
    cases o<;>simp only at hs<;>try (cases hs)
    rw[hg _ _ (by simp only[cI,hm]) hx rfl]
    (repeat' split at hs)<;>simp_all
 all_goals exact absurd rfl hc
def lT(r:Nat×mD)(g h:aA):Prop :=
 match r.2 with
 | none=>h.get r.1=g.get r.1
 | some (n,sz,i,o)=>lM h n (.ptr r.1 sz i o)=lM g n (.ptr r.1 sz i o)
theorem lT.of_get{r:Nat×mD}{g h:aA}(e:h.get r.1=g.get r.1):lT r g h:=by
 unfold lT
 split
 ·exact e
 ·simp only[lM,e]
theorem lT.trans{r:Nat×mD}{a b c:aA}(h1:lT r a b)(h2:lT r b c):lT r a c:=by
 unfold lT at h1 h2 ⊢
 split<;>simp_all
theorem Mm{d:DOp}{h h2:aA}{env:Env}{v:DV}{h':aA}(hg:∀r,mark env d=some r→(∃ o,h.get r.1=some o)→lT r h h2)(hd:mZ d=false)(hs:aK h env d=some (v,h')):aK h2 env d=some (v,h2):=by
 by_cases hld:∃ n a,d=.load n a
 ·obtain⟨n,a,rfl⟩:=hld
  simp only[aK]at hs ⊢
  split at hs
  ·rename_i v' hl
   cases hs
   have:lM h2 n (a.eval env)=some v:=by
    cases hv:a.eval env<;>rw[hv]at hl<;>try (simp only[lM]at hl;cases hl;done)
    ·rename_i id sz i o
     have Sr:∃ ob,h.get id=some ob:=by
      unfold lM at hl
      simp only at hl
      split at hl
      ·exact⟨_,by assumption⟩
      ·cases hl
     have:=hg (id,some (n,sz,i,o)) (by simp only[mark,hv]) Sr
     unfold lT at this
     simp only at this
     rw[this];exact hl
    ·exact hl
   rw[this]
  ·cases hs
 ·refine zH (fun id ob htgt uK _=>?_) hd hs
  have hm:mark env d=some (id,none):=by
   cases d<;>simp only[mark,htgt,Option.map_some]
   exact absurd ⟨_,_,rfl⟩ hld
  have:=hg _ hm ⟨ob,uK⟩
  unfold lT at this
  simp only at this
  rw[this];exact uK
theorem Rc{d:DOp}{h h2:aA}{env:Env}{v:DV}{h':aA}(hg:AV h h2)(hd:mZ d=false)(hs:aK h env d=some (v,h')):aK h2 env d=some (v,h2) :=
 zH (hg.t d env) hd hs
structure fN(h h':aA):Prop where
 lim:h'.lim=h.lim
 n:h.n≤h'.n
 get:∀id,id<h.lim→h'.get id=h.get id
theorem fN.refl(h:aA):fN h h:=⟨rfl,Nat.le_refl _,fun _ _=>rfl⟩
theorem fN.trans{a b c:aA}(h:fN a b)(g:fN b c):fN a c :=
 ⟨g.lim.trans h.lim,Nat.le_trans h.n g.n,fun id hi=>(g.get id (by rw[h.lim];exact hi)).trans (h.get id hi)⟩
theorem fN.push{h:aA}(hl:h.lim≤h.n)(o:DO):fN h (h.push o):=⟨rfl,Nat.le_succ _,fun id hi=>gR (by omega)⟩
theorem fN.set{h:aA}{id:Nat}{ob:DO}(hg:h.get id=some ob)(hl:h.lim≤id)(o:DO):fN h (h.set id o) :=
 ⟨rfl,Nat.le_refl _,fun k hk=>dI (iA hg) (by omega)⟩
theorem vA{h h':aA}{n:Nat}{a x:DV}(hs:kG h n a x=some h'):fN h h':=by
 unfold kG at hs
 split at hs
 ·split at hs
  ·rename_i hx
   split at hs
   ·rename_i hc
    split at hs
    ·split at hs
     ·cases hs;exact .set hx hc.2.1 _
     ·cases hs
    ·cases hs
   ·cases hs
  ·cases hs
 ·cases hs
theorem zV{h h':aA}(hl:h.lim≤h.n){ety sz bytes:Nat}{s v:DV}{ys:List DV}(hs:aY h ety sz bytes s ys=some (v,h')):fN h h':=by
 unfold aY at hs
 split at hs
 ·split at hs
  ·cases hs;exact .refl _
  ·split at hs
   ·cases hs;exact .push hl _
   ·cases hs
 ·split at hs
  ·cases hs;exact .refl _
  ·split at hs
   ·rename_i hx
    split at hs
    ·split at hs
     ·split at hs
      ·rename_i aL;cases hs;exact .set hx aL _
      ·cases hs
     ·split at hs
      ·cases hs;exact .push hl _
      ·split at hs
       ·rename_i aL;cases hs;exact(fN.set hx aL _).trans (.push (by exact hl) _)
       ·cases hs
    ·cases hs
   ·cases hs
 ·cases hs
theorem Gk{h h':aA}{sz:Nat}{d v:DV}{ys:List DV}(hs:xR h sz d ys=some (v,h')):fN h h':=by
 unfold xR at hs
 split at hs
 ·cases hs;exact .refl _
 ·split at hs
  ·rename_i hx
   split at hs
   ·rename_i hc;cases hs;exact .set hx hc.2.2.2 _
   ·cases hs
  ·cases hs
 ·cases hs
theorem Bx{d:DOp}{h h':aA}(hl:h.lim≤h.n){env:Env}{v:DV}(hs:aK h env d=some (v,h')):fN h h':=by
 by_cases ht:mZ d=false
 ·have TA:AV h h:=fun _ _ hx _=>hx
  have:=Rc TA ht hs
  rw[hs]at this
  cases this
  exact .refl _
 cases d<;>simp only[mZ,not_true_eq_false]at ht<;>simp only[aK]at hs
 case alloc=>cases hs;exact .push hl _
 case box=>split at hs<;>cases hs;exact .push hl _
 case buildSlice=>split at hs<;>cases hs;exact .push hl _
 case store =>
  split at hs
  ·rename_i h2 dK;cases hs;exact vA dK
  ·cases hs
 case append =>
  split at hs
  ·exact zV hl hs
  ·cases hs
 case appendZ =>
  split at hs
  ·split at hs
   ·exact zV hl hs
   ·cases hs
  ·cases hs
 case copy =>
  split at hs
  ·exact Gk hs
  ·cases hs
 case clear =>
  split at hs
  ·cases hs;exact .refl _
  ·cases hs;exact .refl _
  ·split at hs
   ·cases hs;exact .refl _
   ·split at hs
    ·rename_i hcp;cases hs;exact Gk hcp
    ·cases hs
  ·cases hs
 case makeSlice =>
  split at hs
  ·split at hs
   ·cases hs;exact .push hl _
   ·cases hs
  ·cases hs
 case makeMap=>cases hs;exact .push hl _
 case mapUpdate =>
  split at hs
  ·split at hs
   ·rename_i hx
    split at hs
    ·rename_i hc
     split at hs
     ·cases hs;exact .set hx hc.1 _
     ·cases hs;exact .set hx hc.1 _
     ·cases hs
    ·cases hs
   ·cases hs
  ·cases hs
 case delete =>
  split at hs
  ·split at hs
   ·rename_i hx
    split at hs
    ·rename_i hc
     split at hs
     ·cases hs;exact .set hx hc.1 _
     ·cases hs;exact .refl _
     ·cases hs
    ·cases hs
   ·cases hs
  ·cases hs
 case call=>cases hs
 all_goals exact absurd trivial ht
end Go.Dm
/-
Part 18 of "Dm": runs leave alone what lies fX the limit.
-/
namespace Go.Dm
abbrev oU:=Nat→List DV→aA→Option (DV×aA)
def eU(call:oU):Prop:=∀f args h v h',h.lim≤h.n→call f args h=some (v,h')→fN h h'
theorem fN.lim_le{h h':aA}(k:fN h h')(hl:h.lim≤h.n):h'.lim≤h'.n:=by rw[k.lim];exact Nat.le_trans hl k.n
theorem lK{call:oU}(hc:eU call){d:DOp}{env:Env}{h h':aA}{v:DV}(hl:h.lim≤h.n)(hs:cC call d env h=some (v,h')):fN h h':=by
 unfold cC at hs
 split at hs
 ·split at hs
  ·exact hc _ _ _ _ _ hl hs
  ·cases hs
 ·exact Bx hl hs
theorem Rm{call:oU}(hc:eU call):∀(ops:List aZ) (env cJ:Env) (h h':aA),h.lim≤h.n→iX call ops env h=some (cJ,h')→fN h h':=by
 intro ops
 induction ops with
 | nil=>intro env cJ h h' _ hs;cases hs;exact .refl _
 | cons o r ih =>
  intro env cJ h h' hl hs
  simp only[iX]at hs
  split at hs
  ·split at hs
   ·rename_i v h1 h2
    have k:=lK hc hl h2
    exact k.trans (ih _ _ _ _ (k.lim_le hl) hs)
   ·cases hs
  ·exact ih _ _ _ _ hl hs
  ·cases hs
theorem vP{call:oU}(hc:eU call){l:Nat}{d:DOp}{env:Env}{h h':aA}{v:DV}(hl:h.lim≤h.n)(Xy:l≤h.n)(hs:oG call l d env h=some (v,h')) :
  fN h h'∧∀id,id<l→h'.get id=h.get id:=by
 unfold oG at hs
 split at hs
 ·rename_i v1 h1 h2
  cases hs
  have k:=lK hc (h:={h with lim:=max l h.lim}) (Nat.max_le.2 ⟨Xy,hl⟩) h2
  exact⟨⟨rfl,k.n,fun id hi=>k.get id (Nat.lt_of_lt_of_le hi (Nat.le_max_right _ _))⟩,fun id hi=>k.get id (Nat.lt_of_lt_of_le hi (Nat.le_max_left _ _))⟩
 ·cases hs
theorem Lu{call:oU}(hc:eU call){l r:Nat}{L L':dE}{d:DOp}{env:Env}{h h':aA}{v:DV}(hl:h.lim≤h.n)(Xy:l≤h.n)(hs:dO call l r L d env h=some (v,h',L')):fN h h':=by
 unfold dO at hs
 split at hs
 ·split at hs
  ·rename_i h2;cases hs;exact Bx hl h2
  ·cases hs
 ·split at hs
  ·rename_i h2;cases hs;exact(vP hc hl Xy h2).1
  ·unfold tZ at hs
   split at hs
   ·split at hs
    ·rename_i h2
     split at hs
     ·cases hs;exact lK hc hl h2
     ·cases hs
    ·cases hs
   ·cases hs
theorem H9{hs:List aA}{k:Nat}{h:aA}(he:kH hs k=some h):h∈hs:=by
 unfold kH at he
 split at he
 ·exact List.mem_of_getElem? he
 ·cases he
def AU:List aA→Prop
 | []=>True
 | h::hs=>h.lim≤h.n∧(∀g,g∈hs→fN g h)∧AU hs
theorem Mq{call:oU}(hc:eU call):∀(ops:List aZ) (env cJ:Env) (hs:List aA) (L:dE) (h':aA),AU hs→eI call ops env hs L=some (cJ,h')→∀g,g∈hs→fN g h':=by
 intro ops
 induction ops with
 | nil =>
  intro env cJ hs L h' dK he g hg
  cases hs with
  | nil=>cases he
  | cons h hs =>
   cases he
   rcases List.mem_cons.1 hg with rfl|hg
   ·exact .refl _
   ·exact dK.2.1 g hg
 | cons o r ih =>
  intro env cJ hs L h' dK he g hg
  cases hs with
  | nil=>cases he
  | cons h hs =>
   have next:∀h1,fN h h1→AU (h1::h::hs):=fun h1 k=>⟨k.lim_le dK.1,fun g hg=>by
    rcases List.mem_cons.1 hg with rfl|hg
    ·exact k
    ·exact(dK.2.1 g hg).trans k,dK⟩
   have fX:∀g,g∈h::hs→g.n≤h.n:=fun g hg=>by
    rcases List.mem_cons.1 hg with rfl|hg
    ·exact Nat.le_refl _
    ·exact(dK.2.1 g hg).n
   simp only[eI]at he
   split at he
   ·cases he
   ·split at he
    ·split at he
     ·split at he
      ·split at he
       ·exact ih _ _ _ _ _ dK he g hg
       ·cases he
      ·cases he
     ·cases he
    ·split at he
     ·rename_i v h1 h2
      exact ih _ _ _ _ _ (next h1 (lK hc dK.1 h2)) he g (List.mem_cons_of_mem _ hg)
     ·cases he
    ·split at he
     ·rename_i h0 SP
      split at he
      ·rename_i v h1 L1 h2
       exact ih _ _ _ _ _ (next h1 (Lu hc dK.1 (fX h0 (H9 SP)) h2)) he g (List.mem_cons_of_mem _ hg)
      ·cases he
     ·cases he
   ·split at he
    ·exact ih _ _ _ _ _ dK he g hg
    ·exact ih _ _ _ _ _ (next h (.refl _)) he g (List.mem_cons_of_mem _ hg)
def A5(run:aN→Env→aA→Res):Prop:=∀c env h e cJ h',h.lim≤h.n→run c env h=.ok e cJ h'→fN h h'
def yT(D:cX):Prop:=∀f hk,D.hook f=some hk→∀h args v h',h.lim≤h.n→hk h args=some (v,h')→fN h h'
theorem Db{h h':aA}{d d':DV}(hf:iU h d=some (d',h')):fN h h':=by
 cases d with
 | sl id sz off len =>
  simp only[iU]at hf
  split at hf
  ·rename_i hg
   split at hf
   ·rename_i dT;cases hf;exact fN.set hg dT.2.1 _
   ·cases hf
  ·cases hf
 | _=>simp only[iU]at hf;cases hf;exact .refl _
theorem Kd{f:aA→DV→Option (DV×aA)}(hk:∀{h h':aA} {d d':DV},f h d=some (d',h')→fN h h'):∀{ds ds':List DV} {h h':aA},vJ f h ds=some (ds',h')→fN h h':=by
 intro ds
 induction ds with
 | nil=>intro ds' h h' he;simp only[vJ]at he;cases he;exact .refl _
 | cons d r ih =>
  intro ds' h h' he
  simp only[vJ]at he
  split at he
  ·rename_i e1
   split at he
   ·rename_i e2;cases he;exact(hk e1).trans (ih e2)
   ·cases he
  ·cases he
theorem Kx{h:aA}{d:DV}(hd:∀cs,d≠.agg cs):jE h d=iU h d:=by
 cases d<;>first|rfl|exact absurd rfl (hd _)
theorem Ni{h h':aA}{d d':DV}(hf:jE h d=some (d',h')):fN h h':=by
 cases d with
 | agg cs =>
  simp only[jE]at hf
  split at hf
  ·rename_i e1;cases hf;exact Kd (fun e=>Db e) e1
  ·cases hf
 | _=>rw[Kx (by intro cs e;cases e)]at hf;exact Db hf
theorem xN{run:aN→Env→aA→Res}{D:cX}(hh:yT D)(hr:A5 run):eU (enter run D):=by
 intro f args h v h' hl he
 unfold enter at he
 split at he
 ·rename_i hk qJ;exact hh _ _ qJ _ _ _ _ hl he
 ·split at he
  ·cases he
  ·rename_i df hdf
   have go:∀args (h h':aA) v,h.lim≤h.n→(match run df.body (args++List.replicate (df.ntmps-args.length) cF) h with
     | .ok (.exit _) _ _=>none
     | .ok _ env h'=>match aI h' env df.results with
      | some v=>some (v,h')
      | none=>none
     | .fail=>none)=some (v,h')→fN h h':=by
    intro args h h' v hl he
    split at he
    ·cases he
    ·rename_i h2
     split at he
     ·cases he;exact hr _ _ _ _ _ _ hl h2
     ·cases he
    ·cases he
   simp only at he
   split at he
   ·exact go _ _ _ _ hl he
   ·split at he
    ·rename_i v1 h1 h2
     cases he
     have k:=go _ {h with lim:=h.n} _ _ (Nat.le_refl _) h2
     exact⟨rfl,k.n,fun id hi=>k.get id (Nat.lt_of_lt_of_le hi hl)⟩
    ·cases he
   ·split at he
    ·split at he
     ·split at he
      ·split at he
       ·cases he;exact .refl _
       ·cases he
      ·cases he
     ·cases he
    ·cases he
   ·split at he
    ·split at he
     ·rename_i hgid
      split at he
      ·rename_i dT
       split at he
       ·split at he
        ·cases he
         exact(fN.set hgid dT.2 _).trans (.push (by exact hl) _)
        ·cases he
       ·cases he
      ·cases he
     ·exact go _ _ _ _ hl he
    ·exact go _ _ _ _ hl he
   ·split at he
    ·rename_i as h1 ea
     split at he
     ·split at he
      ·split at he
       ·split at he
        ·cases he;exact Kd (fun e=>Ni e) ea
        ·cases he
       ·cases he
      ·cases he
     ·cases he
    ·cases he
theorem Lk{D:cX}(hh:yT D):∀n,A5 (eK D n):=by
 intro n
 induction n with
 | zero=>intro c env h e cJ h' _ he;cases he
 | succ n ih =>
  intro c env h e cJ h' hl he
  cases c<;>simp only[eK]at he
  case skip=>cases he;exact .refl _
  case exit=>cases he;exact .refl _
  case ret=>cases he;exact .refl _
  case seq a b =>
   split at he
   ·rename_i e1 h1 h2
    have k:=ih _ _ _ _ _ _ hl h2
    exact k.trans (ih _ _ _ _ _ _ (k.lim_le hl) he)
   ·exact ih _ _ _ _ _ _ hl he
  case cond c a b =>
   split at he
   ·exact ih _ _ _ _ _ _ hl he
   ·exact ih _ _ _ _ _ _ hl he
   ·cases he
  case block id b =>
   split at he
   ·rename_i h2
    split at he
    ·cases he;exact ih _ _ _ _ _ _ hl h2
    ·cases he;exact ih _ _ _ _ _ _ hl h2
   ·exact ih _ _ _ _ _ _ hl he
  case loop b =>
   split at he
   ·rename_i e1 h1 h2
    have k:=ih _ _ _ _ _ _ hl h2
    exact k.trans (ih _ _ _ _ _ _ (k.lim_le hl) he)
   ·exact ih _ _ _ _ _ _ hl he
  case region ops =>
   split at he
   ·rename_i h2;cases he;exact Rm (xN hh ih) _ _ _ _ _ hl h2
   ·cases he
  case draw ops =>
   split at he
   ·rename_i h2;cases he;exact Mq (xN hh ih) _ _ _ [h] _ _ (show AU [h]from⟨hl,(fun _ hg=>(by cases hg)),trivial⟩) h2 _ (List.mem_singleton.2 rfl)
   ·cases he
end Go.Dm
/-
Part 19 of "Dm": calls; one operation, a call or none; results.
-/
namespace Go.Dm
def yD(h:aA)(c:Ctx)(h':aA)(d:DV):Ending→World→Prop:=fun e w'=>∃ v,e=.returned v∧pR h c h' w' d v
def Mf(P:Program)(f:FuncId)(vals:Array Value)(h:aA)(c:Ctx)(h':aA)(d:DV):Prop :=
 (∃ v w',(callFunc f vals).run P c.w=.ok (.value v) w'∧pR h c h' w' d v) ∨
 (∃ f' vals' ,(callFunc f vals).run P c.w=.ok (.enter f' vals') c.w∧Calls P f' vals' c.w (yD h c h' d))
def pS(P:Program)(call:oU):Prop:=∀f args h d h' c vals,call f args h=some (d,h')→Rel h c→VRs c args vals→Mf P f vals.toArray h c h' d
def UJ(P:Program)(o:Oper)(a:Act)(h:aA)(c:Ctx)(h':aA)(d:DV):Prop :=
 ∀K Q,(∀v w',pR h c h' w' d v→K (a.put o.dst v) w')→o.wp P a c.w K Q
theorem jA.opOk{P:Program}{o:Oper}{a:Act}{h h':aA}{c:Ctx}{d:DV}(hs:jA P h c o a h' d):UJ P o a h c h' d:=by
 obtain⟨nx,v,w',hr,hn,hp⟩:=hs
 intro K Q hK
 unfold Oper.wp
 rw[hr]
 rcases hn with rfl|⟨rfl,rfl⟩
 ·exact hK v w' hp
 ·exact hK _ w' hp
theorem Mf.opOk{P:Program}{o:Oper}{a:Act}{h h':aA}{c:Ctx}{d:DV}{f:FuncId}{vals:Array Value}(hc:Mf P f vals h c h' d)
  (he:(execOp a.eval o).run P c.w=(callFunc f vals).run P c.w):UJ P o a h c h' d:=by
 intro K Q hK
 unfold Oper.wp
 rw[he]
 rcases hc with⟨v,w',hr,hp⟩|⟨f',vals',hr,hcalls⟩
 ·rw[hr];exact hK v w' hp
 ·rw[hr]
  exact Calls.mono hcalls fun e w' hp=>by
   obtain⟨v,rfl,hp⟩:=hp
   exact hK v w' hp
section
variable {P:Program} {h h':aA} {c:Ctx} {env:Env} {a:Act} {o:Oper} {r:DV}
theorem EH{as:List Operand}{ds:List Opd}(hm:as.mapM opd=some ds)(hE:eF c env a):VRs c (ds.map (Opd.eval env)) (as.map a.eval):=by
 have hl:=dL _ _ _ hm
 refine⟨by simp[hl],fun i h1 h2=>?_⟩
 simp only[List.length_map]at h1 h2
 simp only[List.getElem_map]
 exact cG (fQ _ _ _ hm i h2 h1) hE
theorem VRs.app{ds es:List DV}{vs us:List Value}(h1:VRs c ds vs)(h2:VRs c es us):VRs c (ds++es) (vs++us):=by
 refine⟨by simp[h1.1,h2.1],fun i a1 a2=>?_⟩
 by_cases hi:i<ds.length
 ·have gJ:i<vs.length:=by rw[←h1.1];exact hi
  rw[List.getElem_append_left hi,List.getElem_append_left gJ]
  exact h1.2 i hi gJ
 ·have gJ:¬i<vs.length:=by rw[←h1.1];exact hi
  rw[List.getElem_append_right (Nat.le_of_not_lt hi),List.getElem_append_right (Nat.le_of_not_lt gJ)]
  have:i-ds.length=i-vs.length:=by rw[h1.1]
  have b1:i-ds.length<es.length:=by simp only[List.length_append]at a1;omega
  have b2:i-vs.length<us.length:=by simp only[List.length_append]at a2;omega
  have:=h2.2 (i-ds.length) b1 (by rw[h1.1];exact b2)
  simpa only[h1.1]using this
theorem FV{f:Operand}{args:Array Operand}{ats:Array TypeId}{g:FuncId}{cap:List Value}(ho:o.op=.call {callee:=.value f,args:=args,argTypes:=ats})
  (hf:a.eval f=.func (.func g) #[] cap.toArray) :
  (execOp a.eval o).run P c.w=(callFunc g (args.toList.map a.eval++cap).toArray).run P c.w:=by
 have e:(args.toList.map a.eval++cap).toArray=args.map a.eval++cap.toArray:=by apply Array.ext';simp
 rw[e]
 simp[execOp,ho,Go.resolve,Deferred.ofValue,hf,invoke]
theorem Zc{f':Opd}{as':List Opd}(hc:mM P o=some (.call f' as')) :
  ∃ f args ats,o.op=.call {callee:=.value f,args:=args,argTypes:=ats}∧opd f=some f'∧args.toList.mapM opd=some as':=by
 unfold mM at hc
 split at hc
 case h_29 f args ats ho =>
  split at hc
  ·rename_i g as h1 h2;cases hc;exact⟨f,args,ats,ho,h1,h2⟩
  ·cases hc
 all_goals ((repeat' split at hc)<;>first|(cases hc;done)|(simp at hc;done))
theorem uA{call:oU}(nO:pS P call){d:DOp}(hc:mM P o=some d)(hR:Rel h c)(hE:eF c env a)(hs:cC call d env h=some (r,h')):UJ P o a h c h' r:=by
 by_cases hn:∀f as,d≠.call f as
 ·have Ga:aK h env d=some (r,h'):=by
   unfold cC at hs
   split at hs
   ·exact absurd rfl (hn _ _)
   ·exact hs
  exact(H5 hc hn hR hE Ga).opOk
 ·have:∃ f as,d=.call f as:=by
   cases d<;>first|exact⟨_,_,rfl⟩|exact absurd (fun _ _=>by simp) hn
  obtain⟨f',as',rfl⟩:=this
  obtain⟨f,args,ats,ho,hf,has⟩:=Zc hc
  simp only[cC]at hs
  split at hs
  ·rename_i g cap hg
   have vf:=cG hf hE
   rw[hg]at vf
   obtain⟨vs,e1,e2,e3⟩:=vf.func_inv
   exact(nO g _ h r h' c _ hs hR ((EH has hE).app ⟨e2,e3⟩)).opOk (FV ho e1)
  ·cases hs
end
end Go.Dm
/-
Part 20 of "Dm": regions in the text's order; guards; results.
-/
namespace Go.Dm
def St(c:Ctx)(h':aA)(cJ:Env)(a':Act)(w':World):Prop :=
 ∃ ρ',Rel h' (c.next w' ρ' h')∧cS c (c.next w' ρ' h')∧eF (c.next w' ρ' h') cJ a'
theorem Nz(c:Ctx)(w1 w2:World)(ρ1 ρ2:Nat→Option (Nat×Nat))(h1 h2:aA):(c.next w1 ρ1 h1).next w2 ρ2 h2=c.next w2 ρ2 h2:=rfl
section
variable {P:Program} {h h':aA} {c:Ctx} {env:Env} {a:Act} {o:Oper} {r:DV}
theorem St.trans{h1:aA}{w1:World}{ρ1:Nat→Option (Nat×Nat)}(dH:cS c (c.next w1 ρ1 h1)){h2:aA}{env2:Env}{a2:Act}{w2:World}(hs:St (c.next w1 ρ1 h1) h2 env2 a2 w2):St c h2 env2 a2 w2:=by
 obtain⟨ρ2,k1,k2,k3⟩:=hs
 exact⟨ρ2,k1,dH.trans k2,k3⟩
theorem eF.mono{c c':Ctx}(hE:eF c env a)(dH:cS c c'):eF c' env a:=⟨hE.size,hE.defers,fun i hi=>(hE.val i hi).mono dH⟩
theorem eF.put(hE:eF c env a){v:Value}{d:DV}(hv:VR c d v)(dst:Option Nat):eF c (Dm.put env dst d) (a.put dst v):=by
 cases dst with
 | none=>exact hE
 | some t =>
  refine⟨by simp[Dm.put,Act.put,hE.size],hE.defers,fun i hi=>?_⟩
  simp only[Dm.put,List.length_set]at hi
  have gJ:i<a.tmps.size:=by rw[hE.size];exact hi
  have:=hE.val i hi
  simp only[Array.getD_eq_getD_getElem?]at this
  simp only[Dm.put,Act.put,List.getElem_set,Array.getD_eq_getD_getElem?,Array.getElem?_setIfInBounds]
  by_cases e:t=i
  ·subst e;simpa[gJ]using hv
  ·simpa[e]using this
theorem eF.get(hE:eF c env a)(t:Nat):VR c ((env[t]?).getD .unk) (a.tmps.getD t undef):=by
 by_cases ht:t<env.length
 ·rw[List.getElem?_eq_getElem ht];exact hE.val t ht
 ·rw[List.getElem?_eq_none (Nat.le_of_not_lt ht)];exact .unk _
theorem qS{ops:List Oper}{g:Option (Nat×Bool)}(hg:Ta ops o.guard=some g)(hE:eF c env a){b:Bool}(hw:jQ env g=some b) :
  Region.wanted o (yielded ops.toArray a.tmps)=b:=by
 unfold Ta at hg
 split at hg
 ·rename_i hn
  cases hg
  simp only[jQ]at hw
  cases hw
  simp[Region.wanted,hn]
 ·rename_i j want hn
  split at hg
  ·rename_i og hog
   split at hg
   ·rename_i t ht
    cases hg
    simp only[jQ]at hw
    split at hw
    ·rename_i b' hb
     cases hw
     obtain⟨bC,Kt⟩:=List.getElem?_eq_some_iff.1 hb
     have hv:=hE.val t bC
     rw[Kt]at hv
     have hv:=hv.bool_inv
     have qW:t<a.tmps.size:=by rw[hE.size];exact bC
     simp[qW]at hv
     simp[Region.wanted,hn,yielded,hog,ht,qW,hv]
    ·rename_i vs hb
     cases hw
     obtain⟨bC,Kt⟩:=List.getElem?_eq_some_iff.1 hb
     have hv:=hE.val t bC
     rw[Kt]at hv
     obtain⟨us,hv,_⟩:=hv.tup_inv
     have qW:t<a.tmps.size:=by rw[hE.size];exact bC
     simp[qW]at hv
     simp[Region.wanted,hn,yielded,hog,ht,qW,hv]
    ·cases hw
   ·cases hg
  ·cases hg
theorem VR.undef:VR c cF Go.undef:=.tup (ds:=[]) (vs:=[]) rfl (fun i h1 _=>absurd h1 (by simp))
theorem vW{ops:List Oper}{k:uU}{s:Nat}{d:aZ}(hc:sE P ops k s o=some d) :
  mM P o=some d.op∧Ta ops o.guard=some d.guard∧d.dst=o.dst∧d.kind=k∧d.snap=s:=by
 unfold sE at hc
 split at hc
 ·rename_i x g h1 h2;cases hc;exact⟨h1,h2,rfl,rfl,rfl⟩
 ·cases hc
theorem EG{call:oU}(nO:pS P call){ops:List Oper}{Q:Exit→Act→World→Prop}:∀(l:List Oper) (ds:List aZ) (h:aA) (c:Ctx) (env:Env) (a:Act) (cJ:Env) (h':aA),
  l.mapM (sE P ops .write 0)=some ds→iX call ds env h=some (cJ,h')→Rel h c→eF c env a→(∀a' w',St c h' cJ a' w'→Q .normal a' w')→wpList P ops.toArray Q l a c.w:=by
 intro l
 induction l with
 | nil =>
  intro ds h c env a cJ h' hm hr hR hE hQ
  simp only[List.mapM_nil,Option.pure_def,Option.some.injEq]at hm
  subst hm
  cases hr
  exact wpList_nil (hQ a c.w ⟨c.ρ,by rw[hR.same];exact⟨hR,.refl c,hE⟩⟩)
 | cons o l ih =>
  intro ds h c env a cJ h' hm hr hR hE hQ
  simp only[List.mapM_cons,Option.pure_def,Option.bind_eq_bind,Option.bind_eq_some_iff]at hm
  obtain⟨d,hd,ds',Gb,hm⟩:=hm
  cases hm
  obtain⟨h1,h2,h3,_,_⟩:=vW hd
  refine wpList_step fun K hK=>?_
  simp only[iX]at hr
  split at hr
  ·rename_i hw
   rw[if_pos (qS h2 hE hw)]
   split at hr
   ·rename_i v tN uJ
    refine uA nO h1 hR hE uJ K Q fun u w' hp=>?_
    obtain⟨ρ',k1,k2,k3⟩:=hp
    refine hK _ _ (ih ds' tN (c.next w' ρ' tN) _ (a.put o.dst u) cJ h' Gb hr k1 ?_ fun a' w'' dK=>hQ _ _ (dK.trans k2))
    rw[←h3]
    exact(hE.mono k2).put k3 _
   ·cases hr
  ·rename_i hw
   rw[if_neg (by rw[qS h2 hE hw];simp)]
   refine hK _ _ (ih ds' h c _ (a.put o.dst Go.undef) cJ h' Gb hr hR ?_ hQ)
   rw[←h3]
   exact hE.put .undef _
  ·cases hr
def wW(a:Act):ResultVar→Sem Value
 | .tmp t=>pure (a.tmps.getD t Go.undef)
 | .cell x t=>do loadVar t (←asAddr (a.tmps.getD x Go.undef))
theorem Jo(fn:Func)(a:Act):results fn a.tmps=(fn.results.mapM (wW a) >>= fun vs=>pure (if h:vs.size=1 then vs[0]else .tuple vs)):=by
 unfold results
 congr 1
theorem DU{rv:ResultVar}{dr:Nl}(hc:Dk P rv=some dr)(hR:Rel h c)(hE:eF c env a){d:DV}(hs:lJ h env dr=some d) :
  ∃ v,(wW a rv).run P c.w=.ok v c.w∧VR c d v:=by
 unfold Dk at hc
 split at hc
 ·rename_i t
  cases hc
  simp only[lJ,Option.some.injEq]at hs
  subst hs
  exact⟨_,by simp only[wW,Sem.run_pure],hE.get t⟩
 ·rename_i x t
  split at hc
  ·rename_i n hn
   cases hc
   simp only[lJ]at hs
   obtain⟨b,o,off,cs,e1,e2,e3⟩:=Am hR (hE.get x) hs
   obtain⟨u,f1,f2⟩:=Js (P:=P) e2 e3 hn
   exact⟨u,by simp only[wW,e1,Sem.run_bind,asAddr,Sem.run_pure,Result.andThen_ok];exact f1,f2⟩
  ·cases hc
theorem MJ{α:Type}(f:α→Sem Value)(w:World):∀(l:List α) (vs:List Value),l.length=vs.length→(∀i (h1:i<l.length) (h2:i<vs.length),(f l[i]).run P w=.ok vs[i] w)→(l.mapM f).run P w=.ok vs w:=by
 intro l
 induction l with
 | nil=>intro vs hl _;cases vs with|nil=>simp|cons=>simp at hl
 | cons x l ih =>
  intro vs hl hv
  cases vs with
  | nil=>simp at hl
  | cons v vs =>
   have h0:=hv 0 (by simp) (by simp)
   simp only[List.getElem_cons_zero]at h0
   have:=ih vs (by simpa using hl) (fun i h1 h2=>by have:=hv (i+1) (by simpa using h1) (by simpa using h2);simpa only[List.getElem_cons_succ]using this)
   simp[List.mapM_cons,h0,this]
theorem Mt{fn:Func}{rs:List Nl}(hc:fn.results.toList.mapM (Dk P)=some rs)(hR:Rel h c)(hE:eF c env a){d:DV}(hs:aI h env rs=some d) :
  ∃ v,(results fn a.tmps).run P c.w=.ok v c.w∧VR c d v:=by
 have hl:=dL _ _ _ hc
 have main:∀ds:List DV,rs.mapM (lJ h env)=some ds→∃ vs:List Value,ds.length=vs.length∧(∀i (h1:i<ds.length) (h2:i<vs.length),VR c ds[i] vs[i]) ∧
   (fn.results.mapM (wW a)).run P c.w=.ok vs.toArray c.w:=by
  intro ds Gb
  have P1:=dL _ _ _ Gb
  have each:∀i (hi:i<fn.results.toList.length),∃ v,(wW a fn.results.toList[i]).run P c.w=.ok v c.w∧VR c (ds[i]'(by omega)) v :=
   fun i hi=>DU (fQ _ _ _ hc i hi (by omega)) hR hE (fQ _ _ _ Gb i (by omega) (by omega))
  let vs:List Value:=(List.range fn.results.toList.length).map fun i=>if hi:i<fn.results.toList.length then Classical.choose (each i hi)else Go.undef
  have hvl:vs.length=fn.results.toList.length:=by simp[vs]
  have hvi:∀i (hi:i<fn.results.toList.length),vs[i]'(by omega)=Classical.choose (each i hi):=fun i hi=>by simp only[vs,List.getElem_map,List.getElem_range,dif_pos hi]
  refine⟨vs,by omega,fun i h1 h2=>?_,?_⟩
  ·rw[hvi i (by omega)]
   exact(Classical.choose_spec (each i (by omega))).2
  ·rw[Array.mapM_eq_mapM_toList]
   have:=MJ (P:=P) (wW a) c.w fn.results.toList vs hvl.symm
    (fun i h1 h2=>by rw[hvi i h1];exact(Classical.choose_spec (each i h1)).1)
   simp only[Sem.run_map,this]
   rfl
 unfold aI at hs
 rw[Jo]
 split at hs
 ·rename_i rr
  obtain⟨vs,k1,k2,k3⟩:=main [d] (by simp[hs])
  have hv1:vs.length=1:=by rw[←k1];rfl
  refine⟨vs[0]'(by omega),?_,k2 0 (by simp) (by omega)⟩
  simp only[Sem.run_bind,k3,Result.andThen_ok]
  simp[hv1]
 ·rename_i eG
  split at hs
  ·rename_i ds Gb
   cases hs
   obtain⟨vs,k1,k2,k3⟩:=main ds Gb
   have P1:=dL _ _ _ Gb
   have hv1:vs.length≠1:=by
    intro e
    have:rs.length=1:=by omega
    obtain⟨x,hx⟩:=List.length_eq_one_iff.1 this
    exact eG x hx
   refine⟨.tuple vs.toArray,?_,.tup k1 k2⟩
   simp only[Sem.run_bind,k3,Result.andThen_ok]
   simp[hv1]
  ·cases hs
end
end Go.Dm
/-
Part 34 of "Dm" (ahead of part 21): when two data, two objects, two heaps are the same.
-/
namespace Go.Dm
theorem pB{l r:List DV}{f:DV→DV→Bool}(hf:∀a b,f a b=true→a=b)(hl:l.length=r.length)(h:((l.zip r).all fun p=>f p.1 p.2)=true):l=r:=by
 induction l generalizing r with
 | nil=>cases r with|nil=>rfl|cons=>simp at hl
 | cons x l ih =>
  cases r with
  | nil=>simp at hl
  | cons y r =>
   simp only[List.zip_cons_cons,List.all_cons,Bool.and_eq_true]at h
   rw[hf x y h.1,ih (by simpa using hl) h.2]
theorem Rh:∀n a b,same n a b=true→a=b:=by
 intro n
 induction n with
 | zero=>intro a b h;simp[same]at h
 | succ n ih =>
  intro a b h
  cases a<;>cases b<;>simp only[same,Bool.false_eq_true]at h<;>try rfl
  all_goals try simp only[Bool.and_eq_true,decide_eq_true_eq,beq_iff_eq]at h
  case bool=>rw[h]
  case int=>rw[h.1,h.2]
  case str=>rw[h]
  case ptr=>obtain⟨⟨⟨h1,h2⟩,h3⟩,h4⟩:=h;rw[Nat.eq_of_beq_eq_true h1,Nat.eq_of_beq_eq_true h2,Nat.eq_of_beq_eq_true h3,Nat.eq_of_beq_eq_true h4]
  case sl=>obtain⟨⟨⟨h1,h2⟩,h3⟩,h4⟩:=h;rw[Nat.eq_of_beq_eq_true h1,Nat.eq_of_beq_eq_true h2,Nat.eq_of_beq_eq_true h3,Nat.eq_of_beq_eq_true h4]
  case iptr=>obtain⟨⟨⟨h1,h2⟩,h3⟩,h4⟩:=h;rw[h1,Nat.eq_of_beq_eq_true h2,pB ih (Nat.eq_of_beq_eq_true h3) h4]
  case isl=>obtain⟨⟨⟨h1,h2⟩,h3⟩,h4⟩:=h;rw[h1,Nat.eq_of_beq_eq_true h2,pB ih (Nat.eq_of_beq_eq_true h3) h4]
  case map=>rw[Nat.eq_of_beq_eq_true h]
  case tok=>rw[Nat.eq_of_beq_eq_true h]
  case atl=>rw[Nat.eq_of_beq_eq_true h]
  case func=>obtain⟨⟨h1,h2⟩,h3⟩:=h;rw[Nat.eq_of_beq_eq_true h1,pB ih (Nat.eq_of_beq_eq_true h2) h3]
  case iface=>rw[Nat.eq_of_beq_eq_true h.1,ih _ _ h.2]
  case agg=>rw[pB ih (Nat.eq_of_beq_eq_true h.1) h.2]
  case tup=>rw[pB ih (Nat.eq_of_beq_eq_true h.1) h.2]
theorem Vu{l r:List DV}(h:rK l r=true):l=r:=by
 simp only[rK,Bool.and_eq_true]at h
 exact pB (Rh 200) (Nat.eq_of_beq_eq_true h.1) h.2
theorem KI{a b:DO}(h:KJ a b=true):a=b:=by
 cases a<;>cases b<;>simp only[KJ,Bool.false_eq_true]at h<;>try rfl
 case arr e1 s1 x1 c1 e2 s2 x2 c2 =>
  simp only[Bool.and_eq_true]at h
  obtain⟨⟨⟨h1,h2⟩,h3⟩,h4⟩:=h
  have hc:c1=c2:=by
   cases c1<;>cases c2<;>simp only[Bool.false_eq_true]at h3<;>try rfl
   rw[Nat.eq_of_beq_eq_true h3]
  rw[Nat.eq_of_beq_eq_true h1,Nat.eq_of_beq_eq_true h2,hc,Vu h4]
 case mp x1 x2 =>
  simp only[Bool.and_eq_true]at h
  obtain⟨h1,h2⟩:=h
  have hl:=Nat.eq_of_beq_eq_true h1
  congr 1
  clear h1
  induction x1 generalizing x2 with
  | nil=>cases x2 with|nil=>rfl|cons=>simp at hl
  | cons x l ih =>
   cases x2 with
   | nil=>simp at hl
   | cons y r =>
    simp only[List.zip_cons_cons,List.all_cons,Bool.and_eq_true]at h2
    rw[ih r h2.2 (by simpa using hl)]
    congr 1
    exact Prod.ext (Rh _ _ _ h2.1.1) (Rh _ _ _ h2.1.2)
theorem Za:∀(n:Nat) (a b:List DO) (id:Nat),id<n→id ∉ Zb n a b→a[n-1-id]?=b[n-1-id]?:=by
 intro n
 induction n with
 | zero=>intro a b id fI _;omega
 | succ n ih =>
  intro a b id fI hn
  cases a with
  | nil=>cases b with
   | nil=>rfl
   | cons y s=>exact absurd (List.mem_range.2 fI) hn
  | cons x r=>cases b with
   | nil=>exact absurd (List.mem_range.2 fI) hn
   | cons y s =>
    simp only[Zb]at hn
    by_cases he:id=n
    ·subst he
     have:id+1-1-id=0:=by omega
     rw[this]
     split at hn
     ·rename_i hs
      simp only[List.getElem?_cons_zero]
      rw[KI hs]
     ·exact absurd (List.mem_cons_self ..) hn
    ·have h1:n+1-1-id=(n-1-id)+1:=by omega
     rw[h1,List.getElem?_cons_succ,List.getElem?_cons_succ]
     refine ih r s id (by omega) fun hm=>hn ?_
     split
     ·exact hm
     ·exact List.mem_cons_of_mem _ hm
theorem zS{h h':aA}{id:Nat}(fI:id<h.n)(hn:id ∉ Hx h h'):h'.get id=h.get id:=by
 unfold Hx at hn
 split at hn
 ·rename_i dH
  have:=Za _ _ _ id fI hn
  have h2:id<h'.n:=Nat.lt_of_lt_of_le fI dH
  unfold aA.get
  rw[if_pos fI,if_pos h2,this,List.getElem?_drop]
  congr 1
  omega
 ·exact absurd (List.mem_range.2 fI) hn
end Go.Dm
/-
Part 21 of "Dm": a region with an open order: its run in an order of our own, by positions.
-/
namespace Go.Dm
structure Fit(P:Program)(ops:List Oper)(cU:List (Nat×aZ))(bs:List Nat):Prop where
 edge:∀j o e,ops[j]?=some o→e∈o.after.toList→Region.binds .any e=true→pA bs j e.on=true∧e.on<j
 clos:∀j o i,ops[j]?=some o→i<ops.length→pA bs j i=true→∃ e,e∈o.after.toList∧Region.binds .any e=true∧(e.on=i∨pA bs e.on i=true)
 all:∀i,i<ops.length→∃ (p:Nat) (x:Nat×aZ),cU[p]?=some x∧x.1=i
 comp:∀(p:Nat) (x:Nat×aZ),cU[p]?=some x→∃ o k s d,ops[x.1]?=some o∧sE P ops k s o=some d∧d.op=x.2.op∧d.guard=x.2.guard∧d.dst=x.2.dst
 kind:∀(p:Nat) (x:Nat×aZ),cU[p]?=some x→qC x.2=true
 pair:∀(p q:Nat) (x y:Nat×aZ),p<q→cU[p]?=some x→cU[q]?=some y→x.1≠y.1∧pA bs x.1 y.1=false∧wX (pA bs y.1 x.1) (Eo cU p) x.2 y.2=true
theorem uX{α:Type}{l:List α}{f:α×Nat→Bool}(h:l.zipIdx.all f=true){j:Nat}{x:α}(hx:l[j]?=some x):f (x,j)=true:=by
 have:=List.all_eq_true.1 h (x,j) (by rw[List.mem_zipIdx_iff_getElem?];simpa using hx)
 exact this
theorem xS{P:Program}{ops:List Oper}{dc:aN}(hc:sD P ops true=some dc):∃ (cU:List (Nat×aZ)) (bs:List Nat),dc=.draw (cU.map (·.2))∧Fit P ops cU bs:=by
 simp only[sD,if_true]at hc
 split at hc
 ·cases hc
 ·rename_i dops hd
  split at hc
  ·rename_i cU hdis
   split at hc
   ·rename_i hok
    cases hc
    refine⟨cU,bits ops,rfl,?_⟩
    simp only[OC,Bool.and_eq_true]at hok
    obtain⟨⟨⟨⟨k1,k2⟩,k3⟩,k4⟩,k5⟩:=hok
    refine⟨fun j o e ho he hb=>?_,fun j o i ho hi hb=>?_,fun i hi=>?_,fun p x hx=>?_,fun p x hx=>?_,fun p q x y uI hx hy=>?_⟩
    ·have:=List.all_eq_true.1 (uX k1 ho) e he
     simp only[hb,Bool.not_true,Bool.false_or,Bool.and_eq_true,decide_eq_true_eq]at this
     exact this
    ·have:=List.all_eq_true.1 (uX k2 ho) i (List.mem_range.2 hi)
     simp only[hb,Bool.not_true,Bool.false_or,List.any_eq_true,Bool.and_eq_true,Bool.or_eq_true,beq_iff_eq]at this
     obtain⟨e,h1,h2,h3⟩:=this
     exact⟨e,h1,h2,h3⟩
    ·have:=List.all_eq_true.1 k3 i (List.mem_range.2 hi)
     simp only[List.any_eq_true,beq_iff_eq]at this
     obtain⟨x,h1,h2⟩:=this
     obtain⟨p,hp⟩:=List.mem_iff_getElem?.1 h1
     exact⟨p,x,hp,h2⟩
    ·obtain⟨bC,uG⟩:=List.getElem?_eq_some_iff.1 hx
     have hl:=dL _ _ _ hdis
     have:=fQ _ _ _ hdis p (by omega) bC
     rw[uG]at this
     split at this
     ·rename_i o ho
      simp only[Option.map_eq_some_iff]at this
      obtain⟨d,hd,he⟩:=this
      subst he
      exact⟨o,_,_,d,ho,hd,rfl,rfl,rfl⟩
     ·cases this
    ·exact List.all_eq_true.1 k4 x (List.mem_of_getElem? hx)
    ·have h1:=uX k5 hy
     have uG:(cU.take q)[p]?=some x:=by rw[List.getElem?_take_of_lt uI];exact hx
     have h2:=uX h1 uG
     simp only[Bool.and_eq_true,bne_iff_ne,ne_eq,Bool.not_eq_true']at h2
     exact⟨h2.1.1,h2.1.2,h2.2⟩
   ·cases hc
  ·cases hc
def OZ(call:oU)(d:aZ)(env:Env)(hs:List aA)(L:dE)(b:Bool)(v:DV)(Ga:List aA)(L':dE):Prop :=
 jQ env d.guard=some b∧∃ g gs,hs=g::gs ∧
  (b=false→v=cF∧(Ga=if d.kind=.read then hs else g::hs)∧L'=L) ∧
  (b=true→(d.kind=.read∧Ga=hs∧(∃ h0 h1,kH hs d.snap=some h0∧aK h0 env d.op=some (v,h1))∧L.free d.snap (cI env d.op)=true∧L'=L.see d.calm (mark env d.op)) ∨
   (d.kind=.write∧L'=L∧∃ h1,cC call d.op env g=some (v,h1)∧Ga=h1::hs) ∨
   (d.kind=.create∧L'=L∧∃ h0 h1,kH hs d.snap=some h0∧oG call h0.n d.op env g=some (v,h1)∧Ga=h1::hs) ∨
   (d.kind=.create∧∃ (ids:List Nat) (h1:aA),cC call d.op env g=some (v,h1)∧(∀id,id<g.n→id ∉ ids→h1.get id=g.get id)∧(∀r,r∈L.rds→r.1<g.n→lT r g h1)∧Ga=h1::hs∧L'={L with pks:=ids.map (fun id=>(gs.length,id))++L.pks}))
structure gP(call:oU)(ds:List aZ)(env:Env)(hs:List aA)(L0:dE)(E:Nat→Env)(HS:Nat→List aA)(LS:Nat→dE)(V:Nat→DV)(B:Nat→Bool):Prop where
 E0:E 0=env
 H0:HS 0=hs
 L0:LS 0=L0
 step:∀p d,ds[p]?=some d→OZ call d (E p) (HS p) (LS p) (B p) (V p) (HS (p+1)) (LS (p+1))∧E (p+1)=put (E p) d.dst (V p)
theorem zU{g h1:aA}{ety sz bytes id' s0 off len id:Nat}{ys:List DV}{v:DV}(hs:aY g ety sz bytes (.sl id' s0 off len) ys=some (v,h1))(fI:id<g.n)(eG:id'≠id):h1.get id=g.get id:=by
 unfold aY at hs
 simp only at hs
 split at hs
 ·cases hs;rfl
 ·split at hs
  ·rename_i hg
   split at hs
   ·split at hs
    ·split at hs
     ·cases hs;exact dI (iA hg) (fun e=>eG e.symm)
     ·cases hs
    ·split at hs
     ·cases hs;exact gR fI
     ·split at hs
      ·cases hs
       rw[gR (by exact fI)]
       exact dI (iA hg) (fun e=>eG e.symm)
      ·cases hs
   ·cases hs
  ·cases hs
theorem Jq{L:dE}{env:Env}{o:DOp}{id' id:Nat}{g h1:aA}{v:DV}(hp:nW L env o=some id')(hs:aK g env o=some (v,h1))(fI:id<g.n)(eG:id'≠id):h1.get id=g.get id:=by
 cases o<;>simp only[nW]at hp<;>try (cases hp;done)
 case store n a x =>
  split at hp
  ·rename_i i1 s1 x1 o1 HN
   split at hp
   ·cases hp
    simp only[aK,HN]at hs
    split at hs
    ·rename_i h2 dK
     cases hs
     unfold kG at dK
     simp only at dK
     split at dK
     ·rename_i hgid
      split at dK
      ·split at dK
       ·split at dK
        ·cases dK;exact dI (iA hgid) (fun e=>eG e.symm)
        ·cases dK
       ·cases dK
      ·cases dK
     ·cases dK
    ·cases hs
   ·cases hp
  ·cases hp
 case append e sz b a x =>
  split at hp
  ·rename_i HN
   split at hp
   ·cases hp
    simp only[aK,HN]at hs
    split at hs
    ·exact zU hs fI eG
    ·cases hs
   ·cases hp
  ·cases hp
 case appendZ e sz b z a x =>
  split at hp
  ·rename_i HN
   split at hp
   ·cases hp
    simp only[aK,HN]at hs
    split at hs
    ·split at hs
     ·exact zU hs fI eG
     ·cases hs
    ·cases hs
   ·cases hp
  ·cases hp
theorem Tb{h:aA}{id:Nat}{o o':DO}(hg:h.get id=some o):(h.set id o').get id=some o':=by
 have bC:=iA hg
 unfold aA.get at hg ⊢
 rw[if_pos bC]at hg
 show(if id<h.n then(h.objs.set (h.n-1-id) o')[h.n-1-id]? else none)=some o'
 rw[if_pos bC,List.getElem?_set_self (List.getElem?_eq_some_iff.1 hg).1]
theorem Yp{sz off n:Nat}{e x:DV}(hx:bD n x=true)(hl:(aP sz e).length=sz)(ho:off+n≤sz){j:Nat}(hj:j<off∨off+n≤j):(aP sz (turn sz off n e x))[j]?=(aP sz e)[j]?:=by
 have hxl:(aP n x).length=n:=by
  unfold bD at hx
  split at hx
  ·cases hx
  ·cases hx
  ·cases hx
  ·simpa[aP]using hx
  ·have:n=1:=by simpa using hx
   subst this
   cases x<;>simp_all[aP]
 unfold turn
 split
 ·rename_i h
  have:j ≥ sz:=by omega
  have hxl':(aP sz x).length=sz:=by rw[←h.2];exact hxl
  rw[List.getElem?_eq_none (by omega),List.getElem?_eq_none (by omega)]
 ·show((aP sz e).take off++aP n x++(aP sz e).drop (off+n))[j]?=_
  have ht:((aP sz e).take off).length=off:=by rw[List.length_take];omega
  rcases hj with hj|hj
  ·rw[List.append_assoc,List.getElem?_append_left (by omega),List.getElem?_take_of_lt hj]
  ·rw[List.getElem?_append_right (by rw[List.length_append];omega),List.getElem?_drop,List.length_append,ht,hxl]
   congr 1
   omega
theorem Hd{sz off n:Nat}{e x:DV}(hx:bD n x=true)(hl:(aP sz e).length=sz)(ho:off+n≤sz):(aP sz (turn sz off n e x)).length=sz:=by
 have hxl:(aP n x).length=n:=by
  unfold bD at hx
  split at hx
  ·cases hx
  ·cases hx
  ·cases hx
  ·simpa[aP]using hx
  ·have:n=1:=by simpa using hx
   subst this
   cases x<;>simp_all[aP]
 unfold turn
 split
 ·rename_i h;rw[←h.2];exact hxl
 ·show((aP sz e).take off++aP n x++(aP sz e).drop (off+n)).length=sz
  simp only[List.length_append,List.length_take,List.length_drop]
  omega
theorem L8{m:Option Nat}{xs ys:List DV}{o:Nat}(hl:xs.length=ys.length)(h:∀j,o≤j→j<o+Ia m→xs[j]?=ys[j]?):dM m xs o=dM m ys o:=by
 cases m with
 | none=>exact h o (Nat.le_refl _) (Nat.lt_succ_self _)
 | some k =>
  simp only[dM,hl]
  split
  ·congr 2
   refine List.ext_getElem? fun i=>?_
   simp only[List.getElem?_take,List.getElem?_drop]
   split
   ·exact h (o+i) (by omega) (by show o+i<o+k;omega)
   ·rfl
  ·rfl
theorem Ve{g h1:aA}{n id sz idx off:Nat}{x:DV}(hs:kG g n (.ptr id sz idx off) x=some h1){p:mD}(ha:uT p n idx off=true):lT (id,p) g h1:=by
 unfold kG at hs
 simp only at hs
 split at hs
 ·rename_i ety eM xs cap hg
  split at hs
  ·rename_i hc
   obtain⟨rfl,_,dK,hoff⟩:=hc
   split at hs
   ·rename_i e he
    split at hs
    ·rename_i kZ
     cases hs
     cases p with
     | none=>cases ha
     | some q =>
      obtain⟨m,eM,i,o⟩:=q
      have Ap:(g.set id (.arr ety sz (xs.set idx (turn sz off n e x)) cap)).get id=some (.arr ety sz (xs.set idx (turn sz off n e x)) cap):=Tb hg
      unfold lT
      simp only[lM,Ap,hg]
      split
      ·rename_i fP
       subst fP
       simp only[uT,Bool.or_eq_true,Bool.not_eq_true',Nat.ble_eq]at ha
       by_cases hi:i=idx
       ·subst hi
        have bC:=(List.getElem?_eq_some_iff.1 he).1
        rw[List.getElem?_set_self bC,he]
        refine L8 (by rw[Hd dK kZ hoff,kZ]) fun j j1 j2=>Yp dK kZ hoff ?_
        rcases ha with(ha|ha)|ha
        ·simp at ha
        ·omega
        ·omega
       ·rw[List.getElem?_set_ne (fun e=>hi e.symm)]
      ·rfl
    ·cases hs
   ·cases hs
  ·cases hs
 ·cases hs
theorem Wt{L:dE}{env:Env}{o:DOp}{id:Nat}{g h1:aA}{v:DV}(hp:nW L env o=some id)(hs:aK g env o=some (v,h1)):∀r,r∈L.rds→r.1<g.n→lT r g h1:=by
 intro r hr hn
 by_cases eG:id=r.1
 ·subst eG
  have un:∀i:Nat,(if(L.rds.all fun x=>!(Nat.beq x.1 i))=true then some i else none)=some r.1→False:=by
   intro i hi
   split at hi
   ·rename_i lA
    cases hi
    have:=List.all_eq_true.1 lA r hr
    simp at this
   ·cases hi
  unfold nW at hp
  split at hp
  ·rename_i n a x
   split at hp
   ·rename_i i1 sz idx off HN
    split at hp
    ·rename_i lA
     cases hp
     have ha:=List.all_eq_true.1 lA r hr
     simp only[Nat.beq_refl,Bool.not_true,Bool.false_or]at ha
     simp only[aK,HN]at hs
     split at hs
     ·rename_i h2 dK
      cases hs
      exact Ve dK ha
     ·cases hs
    ·cases hp
   ·cases hp
  ·split at hp
   ·exact(un _ hp).elim
   ·cases hp
  ·split at hp
   ·exact(un _ hp).elim
   ·cases hp
  ·cases hp
 ·exact .of_get (Jq hp hs hn eG)
theorem Oz{call:oU}:∀(ds:List aZ) (env cJ:Env) (hs:List aA) (L:dE) (h':aA),eI call ds env hs L=some (cJ,h') →
  ∃ E HS LS V B,gP call ds env hs L E HS LS V B∧E ds.length=cJ∧∃ gs,HS ds.length=h'::gs:=by
 intro ds
 induction ds with
 | nil =>
  intro env cJ hs L h' hr
  cases hs with
  | nil=>cases hr
  | cons h hs =>
   cases hr
   exact⟨fun _=>env,fun _=>h'::hs,fun _=>L,fun _=>.unk,fun _=>false,⟨rfl,rfl,rfl,fun p d hd=>by simp at hd⟩,rfl,hs,rfl⟩
 | cons o r ih =>
  intro env cJ hs L h' hr
  have key:∀b v hs1 L1,OZ call o env hs L b v hs1 L1→eI call r (put env o.dst v) hs1 L1=some (cJ,h') →
    ∃ E HS LS V B,gP call (o::r) env hs L E HS LS V B∧E (o::r).length=cJ∧∃ gs,HS (o::r).length=h'::gs:=by
   intro b v hs1 L1 dK O7
   obtain⟨E,HS,LS,V,B,ht,h1,h2⟩:=ih _ _ _ _ _ O7
   refine⟨fun p=>match p with|0=>env|p+1=>E p,fun p=>match p with|0=>hs|p+1=>HS p,fun p=>match p with|0=>L|p+1=>LS p,fun p=>match p with|0=>v|p+1=>V p,fun p=>match p with|0=>b|p+1=>B p,⟨rfl,rfl,rfl,?_⟩,h1,h2⟩
   intro p d hd
   cases p with
   | zero =>
    simp only[List.getElem?_cons_zero,Option.some.injEq]at hd
    subst hd
    exact⟨by simpa only[ht.H0,ht.L0]using dK,by simp only[ht.E0]⟩
   | succ p=>exact ht.step p d (by simpa using hd)
  cases hs with
  | nil=>simp[eI]at hr
  | cons h hs =>
   simp only[eI]at hr
   split at hr
   ·cases hr
   ·rename_i hw
    split at hr
    ·rename_i hk
     split at hr
     ·rename_i hfree
      split at hr
      ·rename_i h0 SP
       split at hr
       ·rename_i v h1 dK
        exact key true v _ _ ⟨hw,h,hs,rfl,fun e=>(by cases e),fun _=>.inl ⟨hk,rfl,⟨h0,h1,SP,dK⟩,hfree,rfl⟩⟩ hr
       ·cases hr
      ·cases hr
     ·cases hr
    ·rename_i hk
     split at hr
     ·rename_i v h1 dK
      exact key true v _ _ ⟨hw,h,hs,rfl,fun e=>(by cases e),fun _=>.inr (.inl ⟨hk,rfl,h1,dK,rfl⟩)⟩ hr
     ·cases hr
    ·rename_i hk
     split at hr
     ·rename_i h0 SP
      split at hr
      ·rename_i v h1 L1 dK
       refine key true v _ _ ⟨hw,h,hs,rfl,fun e=>(by cases e),fun _=>.inr (.inr ?_)⟩ hr
       unfold dO at dK
       split at dK
       ·rename_i id fI
        split at dK
        ·rename_i h3
         cases dK
         refine .inr ⟨hk,[id],h1,by rw[L7 fI];exact h3,fun i hi eG=>Jq fI h3 hi (fun e=>eG (by rw[e];exact List.mem_singleton.2 rfl)),Wt fI h3,rfl,rfl⟩
        ·cases dK
       ·split at dK
        ·rename_i h3;cases dK;exact .inl ⟨hk,rfl,h0,h1,SP,h3,rfl⟩
        ·unfold tZ at dK
         split at dK
         ·split at dK
          ·rename_i h3
           split at dK
           ·rename_i lA
            cases dK
            exact .inr ⟨hk,_,h1,h3,fun i hi eG=>zS hi eG,fun r hr hn=>.of_get (zS hn fun hm=>by
             have:=List.all_eq_true.1 (List.all_eq_true.1 lA.2 _ hm) r hr
             simp at this),rfl,rfl⟩
           ·cases dK
          ·cases dK
         ·cases dK
      ·cases hr
     ·cases hr
   ·rename_i hw
    exact key false cF _ _ ⟨hw,h,hs,rfl,fun _=>⟨rfl,rfl,rfl⟩,fun e=>(by cases e)⟩ hr
def bF(hs:List aA):aA:=hs.headD default
section
variable {call:oU} {ds:List aZ} {env:Env} {h:aA} {E:Nat→Env} {HS:Nat→List aA} {LS:Nat→dE} {V:Nat→DV} {B:Nat→Bool}
def kA(ds:List aZ)(p:Nat):Nat:=((ds.take p).filter fun x=>x.kind != .read).length
theorem vD{p:Nat}{d:aZ}(hd:ds[p]?=some d):kA ds (p+1)=kA ds p+(if d.kind=.read then 0 else 1):=by
 obtain⟨bC,he⟩:=List.getElem?_eq_some_iff.1 hd
 unfold kA
 rw[List.take_succ_eq_append_getElem bC,List.filter_append,List.length_append,he]
 cases hk:d.kind<;>simp[hk]
theorem pG{p q:Nat}(uI:p≤q):kA ds p≤kA ds q:=by
 unfold kA
 have:(ds.take p).filter (fun x=>x.kind != .read) <+: (ds.take q).filter (fun x=>x.kind != .read):=(List.take_prefix_take_left uI).filter _
 exact this.length_le
theorem gP.shape(T:gP call ds env [h] .start E HS LS V B):∀p,p≤ds.length→HS p≠[]∧(HS p).length=kA ds p+1:=by
 intro p
 induction p with
 | zero=>intro _;rw[T.H0];simp[kA]
 | succ p ih =>
  intro hp
  obtain⟨d,hd⟩:∃ d,ds[p]?=some d:=⟨ds[p]'(by omega),List.getElem?_eq_getElem (by omega)⟩
  obtain⟨i1,i2⟩:=ih (by omega)
  obtain⟨⟨hw,g,gs,hg,hf,ht⟩,_⟩:=T.step p d hd
  rw[vD hd]
  cases hb:B p with
  | false =>
   obtain⟨_,e,_⟩:=hf hb
   rw[e]
   split
   ·exact⟨i1,by omega⟩
   ·exact⟨by simp,by simp[i2]⟩
  | true =>
   rcases ht hb with⟨hk,e,_⟩|⟨hk,_,h1,_,e⟩|⟨hk,_,h0,h1,_,_,e⟩|⟨hk,id,h1,_,_,_,e,_⟩<;>rw[e,hk]
   ·exact⟨i1,by simp[i2]⟩
   ·exact⟨by simp,by simp[i2]⟩
   ·exact⟨by simp,by simp[i2]⟩
   ·exact⟨by simp,by simp[i2]⟩
theorem gP.heap(T:gP call ds env [h] .start E HS LS V B){p:Nat}{d:aZ}(hd:ds[p]?=some d) :
  (d.kind=.read∧HS (p+1)=HS p)∨(d.kind≠.read∧HS (p+1)=bF (HS (p+1))::HS p):=by
 obtain⟨⟨hw,g,gs,hg,hf,ht⟩,_⟩:=T.step p d hd
 cases hb:B p with
 | false =>
  obtain⟨_,e,_⟩:=hf hb
  split at e
  ·rename_i hk;exact .inl ⟨hk,e⟩
  ·rename_i hk;exact .inr ⟨hk,by rw[e];simp[bF]⟩
 | true =>
  rcases ht hb with⟨hk,e,_⟩|⟨hk,_,h1,_,e⟩|⟨hk,_,h0,h1,_,_,e⟩|⟨hk,id,h1,_,_,_,e,_⟩
  ·exact .inl ⟨hk,e⟩
  ·exact .inr ⟨by rw[hk];simp,by rw[e];simp[bF]⟩
  ·exact .inr ⟨by rw[hk];simp,by rw[e];simp[bF]⟩
  ·exact .inr ⟨by rw[hk];simp,by rw[e];simp[bF]⟩
theorem gP.snap(T:gP call ds env [h] .start E HS LS V B):∀p,p≤ds.length→∀s h0,kH (HS p) s=some h0→∃ m,m≤p∧h0=bF (HS m)∧kA ds m=s:=by
 intro p
 induction p with
 | zero =>
  intro _ s h0 hs
  rw[T.H0]at hs
  unfold kH at hs
  split at hs
  ·rename_i bC
   simp only[List.length_singleton,Nat.lt_one_iff]at bC
   subst bC
   simp at hs
   exact⟨0,Nat.le_refl _,by rw[T.H0];exact hs.symm,rfl⟩
  ·cases hs
 | succ p ih =>
  intro hp s h0 hs
  obtain⟨d,hd⟩:∃ d,ds[p]?=some d:=⟨ds[p]'(by omega),List.getElem?_eq_getElem (by omega)⟩
  have hl:=(T.shape p (by omega)).2
  rcases T.heap hd with⟨hk,e⟩|⟨hk,e⟩
  ·rw[e]at hs
   obtain⟨m,h1,h2,h3⟩:=ih (by omega) s h0 hs
   exact⟨m,by omega,h2,h3⟩
  ·rw[e]at hs
   unfold kH at hs
   split at hs
   ·rename_i bC
    simp only[List.length_cons]at bC hs
    by_cases Ga:s=(HS p).length
    ·subst Ga
     simp only[Nat.add_sub_cancel,Nat.sub_self,List.getElem?_cons_zero,Option.some.injEq]at hs
     exact⟨p+1,Nat.le_refl _,hs.symm,by rw[vD hd,if_neg hk,hl]⟩
    ·have:(HS p).length+1-1-s=((HS p).length-1-s)+1:=by omega
     rw[this,List.getElem?_cons_succ]at hs
     obtain⟨m,h1,h2,h3⟩:=ih (by omega) s h0 (by unfold kH;rw[if_pos (by omega)];exact hs)
     exact⟨m,by omega,h2,h3⟩
   ·cases hs
theorem gP.keeps1(T:gP call ds env [h] .start E HS LS V B)(hc:eU call)(hl:h.lim≤h.n):∀p,p≤ds.length→(bF (HS p)).lim≤(bF (HS p)).n∧∀m,m≤p→fN (bF (HS m)) (bF (HS p)):=by
 intro p
 induction p with
 | zero =>
  intro _
  refine⟨by rw[T.H0];exact hl,fun m hm=>?_⟩
  have:m=0:=by omega
  subst this
  exact .refl _
 | succ p ih =>
  intro hp
  obtain⟨d,hd⟩:∃ d,ds[p]?=some d:=⟨ds[p]'(by omega),List.getElem?_eq_getElem (by omega)⟩
  obtain⟨i1,i2⟩:=ih (by omega)
  have one:fN (bF (HS p)) (bF (HS (p+1))):=by
   obtain⟨⟨hw,g,gs,hg,hf,ht⟩,_⟩:=T.step p d hd
   have Sy:bF (HS p)=g:=by rw[hg];rfl
   cases hb:B p with
   | false =>
    obtain⟨_,e,_⟩:=hf hb
    rw[e]
    split
    ·exact .refl _
    ·rw[Sy];exact .refl _
   | true =>
    rcases ht hb with⟨hk,e,_⟩|⟨hk,_,h1,h2,e⟩|⟨hk,_,h0,h1,h2,h3,e⟩|⟨hk,id,h1,h3,_,_,e,_⟩
    rotate_right
    ·rw[e,Sy];exact lK hc (by rw[←Sy];exact i1) h3
    ·rw[e];exact .refl _
    ·rw[e,Sy];exact lK hc (by rw[←Sy];exact i1) h2
    ·obtain⟨m,a1,a2,_⟩:=T.snap p (by omega) _ _ h2
     rw[e,Sy]
     exact(vP hc (by rw[←Sy];exact i1) (by rw[a2,←Sy];exact(i2 m a1).n) h3).1
  refine⟨one.lim_le i1,fun m hm=>?_⟩
  by_cases e:m=p+1
  ·subst e;exact .refl _
  ·exact(i2 m (by omega)).trans one
theorem gP.keeps(T:gP call ds env [h] .start E HS LS V B)(hc:eU call)(hl:h.lim≤h.n){m p:Nat}(hm:m≤p)(hp:p≤ds.length):fN (bF (HS m)) (bF (HS p)):=(T.keeps1 hc hl p hp).2 m hm
theorem gP.alloc(T:gP call ds env [h] .start E HS LS V B){p:Nat}{d:aZ}(hd:ds[p]?=some d)(ha:d.op.cls=.alloc)(hk:d.kind=.create)(hb:B p=true) :
  ∃ ety sz xs,Gu (E p) d.op=some (ety,sz,xs)∧V p=Y6 (bF (HS p)).n d.op∧bF (HS (p+1))=(bF (HS p)).push (.arr ety sz xs (some xs.length)):=by
 obtain⟨⟨hw,g,gs,hg,hf,ht⟩,_⟩:=T.step p d hd
 have Sy:bF (HS p)=g:=by rw[hg];rfl
 have tQ:∀(c:oU) (h:aA),cC c d.op (E p) h=aK h (E p) d.op:=fun c h=>by
  rcases Lx ha with⟨ety,sz,z,e⟩|⟨ety,sz,z,len,parts,e⟩<;>rw[e]<;>rfl
 rcases ht hb with⟨qJ,_⟩|⟨qJ,_⟩|⟨_,_,h0,h1,h2,h3,e⟩|⟨_,id,h1,h2,_,_,e,_⟩
 ·rw[hk]at qJ;cases qJ
 ·rw[hk]at qJ;cases qJ
 ·unfold oG at h3
  rw[tQ]at h3
  split at h3
  ·rename_i v h' h4
   simp only[Option.some.injEq,Prod.mk.injEq]at h3
   obtain⟨ety,sz,xs,m1,m2,m3⟩:=Fn ha h4
   rw[e,Sy]
   refine⟨ety,sz,xs,m1,by rw[←h3.1,m2],?_⟩
   show h1=_
   rw[←h3.2,m3]
   rfl
  ·cases h3
 ·rw[tQ]at h2
  obtain⟨ety,sz,xs,m1,m2,m3⟩:=Fn ha h2
  rw[e,Sy]
  exact⟨ety,sz,xs,m1,m2,m3⟩
theorem gP.grows(T : gP call ds env [h] .start E HS LS V B)(hc : eU call)(hl : h.lim ≤ h.n){m s : Nat}(hs : kA ds m = s) : ∀ k, m ≤ k → k ≤ ds.length →
    (∀ (p : Nat) (d : aZ), m ≤ p → p < k → ds[p]? = some d → d.kind ≠ .read → d.op.cls = .alloc ∨ (d.kind = .create ∧ s ≤ d.snap)) →
    (∀ (p : Nat) (d : aZ), ds[p]? = some d → d.op.cls = .alloc → d.kind = .create) →
    ∀ r : Nat × mD, r.1 < (bF (HS m)).n → (∀ (p : Nat) (d : aZ), m ≤ p → p < k → ds[p]? = some d → d.kind = .create → d.op.cls ≠ .alloc → r ∈ (LS p).rds ∨ ((HS p).length - 1, r.1) ∉ (LS (p + 1)).pks) →
    lT r (bF (HS m)) (bF (HS k)) := by
  intro k
  induction k with
  | zero => intro hm _ _ _ id _ _; have : m = 0 := by omega
            subst this; exact .of_get rfl
  | succ k ih =>
    intro hm hk hw Aw rr fI hnp
    by_cases e : m = k + 1
    · subst e; exact .of_get rfl
    obtain⟨d, hd⟩ : ∃ d, ds[k]? = some d := ⟨ds[k]'(by omega), List.getElem?_eq_getElem (by omega)⟩
    have i0 := ih (by omega) (by omega) (fun p d a1 a2 => hw p d a1 (by omega)) Aw rr fI (fun p d a1 a2 => hnp p d a1 (by omega))
    refine i0.trans ?_
    have hn : rr.1 < (bF (HS k)).n := Nat.lt_of_lt_of_le fI (T.keeps hc hl (by omega : m ≤ k) (by omega)).n
    obtain⟨⟨hwd, g, gs, hg, hf, ht⟩, _⟩ := T.step k d hd
    have Sy : bF (HS k) = g := by rw[hg]; rfl
    cases hb : B k with
    | false =>
      obtain⟨_, e, _⟩ := hf hb
      rw[e]
      split
      · exact .of_get rfl
      · rw[Sy]; exact .of_get rfl
    | true =>
      by_cases Ew : d.kind = .read
      · rcases ht hb with⟨_, e, _⟩ | ⟨qJ, _⟩ | ⟨qJ, _⟩ | ⟨qJ, _⟩
        · rw[e]; exact .of_get rfl
        · rw[Ew]at qJ; cases qJ
        · rw[Ew]at qJ; cases qJ
        · rw[Ew]at qJ; cases qJ
      · have hwk := hw k d (by omega) (by omega) hd Ew
        have hsplit : d.op.cls = .alloc ∨ (d.op.cls ≠ .alloc ∧ d.kind = .create ∧ s ≤ d.snap) := by
          by_cases ha : d.op.cls = .alloc
          · exact .inl ha
          · exact .inr ⟨ha, hwk.resolve_left ha⟩
        rcases hsplit with ha | ⟨ZO, hcr, hsn⟩
        · have hcr := Aw k d hd ha
          obtain⟨ety, sz, xs, _, _, e⟩ := T.alloc hd ha hcr hb
          rw[e]
          exact .of_get (gR hn)
        · rcases ht hb with⟨qJ, _⟩ | ⟨qJ, _⟩ | ⟨_, _, h0, h1, h2, h3, e⟩ | ⟨_, ids, h1, _, h3, h4, e, eL⟩
          rotate_right
          · rw[e, Sy]
            rcases hnp k d (by omega) (by omega) hd hcr ZO with hm | hm
            · exact h4 rr hm (by rw[← Sy]; exact hn)
            · refine .of_get (h3 rr.1 (by rw[← Sy]; exact hn) fun e' => hm ?_)
              rw[eL, hg]
              exact List.mem_append_left _ (List.mem_map.2 ⟨rr.1, e', rfl⟩)
          · rw[hcr]at qJ; cases qJ
          · rw[hcr]at qJ; cases qJ
          · obtain⟨m', a1, a2, a3⟩ := T.snap k (by omega) _ _ h2
            rw[e, Sy]
            have sK := T.keeps1 hc hl k (by omega)
            have Du : (bF (HS m)).n ≤ h0.n := by
              rw[a2]
              by_cases dH : m ≤ m'
              · exact(T.keeps hc hl dH (by omega)).n
              · have h4 : kA ds m' ≤ kA ds m := pG (by omega)
                have h5 : kA ds m' = kA ds m := by omega
                have same : ∀ q, m' ≤ q → q ≤ m → HS q = HS m' := by
                  intro q
                  induction q with
                  | zero => intro hq _; have : m' = 0 := by omega
                            subst this; rfl
                  | succ q iq =>
                    intro Ho yP
                    by_cases eq : m' = q + 1
                    · subst eq; rfl
                    obtain⟨dq, hdq⟩ : ∃ d, ds[q]? = some d := ⟨ds[q]'(by omega), List.getElem?_eq_getElem (by omega)⟩
                    have r1 : kA ds m' ≤ kA ds q := pG (by omega)
                    have r2 : kA ds (q + 1) ≤ kA ds m := pG (by omega)
                    rw[vD hdq]at r2
                    rcases T.heap hdq with⟨_, e⟩ | ⟨eG, _⟩
                    · rw[e]; exact iq (by omega) (by omega)
                    · rw[if_neg eG]at r2; omega
                rw[same m (by omega) (Nat.le_refl _)]
                exact Nat.le_refl _
            exact .of_get ((vP hc (by rw[← Sy]; exact sK.1) (by rw[a2, ← Sy]; exact(sK.2 m' a1).n) h3).2 rr.1 (Nat.lt_of_lt_of_le fI Du))
theorem gP.logs(T : gP call ds env [h] .start E HS LS V B){m : Nat} : ∀ p, m ≤ p → p ≤ ds.length → (∀ x, x ∈ (LS m).rds → x ∈ (LS p).rds) ∧ (∀ x, x ∈ (LS m).pks → x ∈ (LS p).pks) := by
  intro p
  induction p with
  | zero => intro hm _; have : m = 0 := by omega
            subst this; exact⟨fun _ h => h, fun _ h => h⟩
  | succ p ih =>
    intro hm hp
    by_cases e : m = p + 1
    · subst e; exact⟨fun _ h => h, fun _ h => h⟩
    obtain⟨i1, i2⟩ := ih (by omega) (by omega)
    obtain⟨d, hd⟩ : ∃ d, ds[p]? = some d := ⟨ds[p]'(by omega), List.getElem?_eq_getElem (by omega)⟩
    obtain⟨⟨hw, g, gs, hg, hf, ht⟩, _⟩ := T.step p d hd
    cases hb : B p with
    | false =>
      obtain⟨_, _, e⟩ := hf hb
      rw[e]; exact⟨i1, i2⟩
    | true =>
      rcases ht hb with⟨_, _, _, _, e⟩ | ⟨_, e, _⟩ | ⟨_, e, _⟩ | ⟨_, ids, h1, _, _, _, _, e⟩
      · rw[e]
        unfold dE.see
        split
        · exact⟨i1, i2⟩
        · unfold dE.read
          split
          · exact⟨fun x hx => List.mem_cons_of_mem _ (i1 x hx), i2⟩
          · exact⟨i1, i2⟩
      · rw[e]; exact⟨i1, i2⟩
      · rw[e]; exact⟨i1, i2⟩
      · rw[e]; exact⟨i1, fun x hx => List.mem_append_right _ (i2 x hx)⟩
theorem L3(env:Env)(d:Option Nat)(v:DV):(put env d v).length=env.length:=by cases d<;>simp[put]
theorem gP.len(T:gP call ds env [h] .start E HS LS V B):∀p,p≤ds.length→(E p).length=env.length:=by
 intro p
 induction p with
 | zero=>intro _;rw[T.E0]
 | succ p ih =>
  intro hp
  obtain⟨d,hd⟩:∃ d,ds[p]?=some d:=⟨ds[p]'(by omega),List.getElem?_eq_getElem (by omega)⟩
  rw[(T.step p d hd).2,L3,ih (by omega)]
theorem gP.old(T:gP call ds env [h] .start E HS LS V B){t:Nat}:∀q,q≤ds.length→(∀(p:Nat) (d:aZ),p<q→ds[p]?=some d→d.dst≠some t)→(E q)[t]?=env[t]?:=by
 intro q
 induction q with
 | zero=>intro _ _;rw[T.E0]
 | succ q ih =>
  intro hq tQ
  obtain⟨d,hd⟩:∃ d,ds[q]?=some d:=⟨ds[q]'(by omega),List.getElem?_eq_getElem (by omega)⟩
  rw[(T.step q d hd).2]
  have h1:=ih (by omega) (fun p d hp=>tQ p d (by omega))
  have h2:=tQ q d (by omega) hd
  unfold put
  split
  ·rename_i t' HI
   rw[List.getElem?_set,if_neg (fun e:t'=t=>h2 (by rw[HI,e])),h1]
  ·exact h1
theorem gP.new(T:gP call ds env [h] .start E HS LS V B){t p:Nat}{d:aZ}(hd:ds[p]?=some d)(ht:d.dst=some t)(bC:t<env.length):∀q,p<q→q≤ds.length →
  (∀(p':Nat) (d':aZ),p<p'→p'<q→ds[p']?=some d'→d'.dst≠some t)→(E q)[t]?=some (V p):=by
 intro q
 induction q with
 | zero=>intro h0;omega
 | succ q ih =>
  intro uI hq tQ
  obtain⟨d',eJ⟩:∃ d,ds[q]?=some d:=⟨ds[q]'(by omega),List.getElem?_eq_getElem (by omega)⟩
  rw[(T.step q d' eJ).2]
  have hl:=T.len q (by omega)
  by_cases e:p=q
  ·subst e
   have:d'=d:=Option.some.inj (eJ.symm.trans hd)
   subst this
   simp only[put,ht,List.getElem?_set]
   rw[if_pos trivial,if_pos (by omega)]
  ·have h1:=ih (by omega) (by omega) (fun p' d' a1 a2=>tQ p' d' a1 (by omega))
   have h2:=tQ q d' (by omega) (by omega) eJ
   unfold put
   split
   ·rename_i t' HI
    rw[List.getElem?_set,if_neg (fun e:t'=t=>h2 (by rw[HI,e])),h1]
   ·exact h1
end
end Go.Dm
/-
Part 22 of "Dm": a region with an open order: what holds at each of its states.
-/
namespace Go.Dm
def Ctx.cut(c:Ctx)(N:Nat):Ctx:={c with ρ:=fun id=>if id<N then c.ρ id else none}
theorem jL{c:Ctx}{N id:Nat}(h:id<N):(c.cut N).ρ id=c.ρ id:=by simp[Ctx.cut,h]
theorem uR{c:Ctx}{N id:Nat}{p:Nat×Nat}(h:(c.cut N).ρ id=some p):id<N∧c.ρ id=some p:=by
 simp only[Ctx.cut]at h
 split at h
 ·exact⟨by assumption,h⟩
 ·cases h
theorem ZC{c:Ctx}{ρ ρ':Nat→Option (Nat×Nat)}(h:∀id p,ρ id=some p→ρ' id=some p):cS {c with ρ:=ρ} {c with ρ:=ρ'} :=
 ⟨h,Nat.le_refl _,fun _ _ _=>rfl,fun _ h=>.inl h,fun _ _ _ h=>h,fun _ h=>h,fun _ _ h=>⟨h,rfl⟩,.refl _,rfl⟩
theorem qN{c:Ctx}{N M:Nat}(h:N≤M):cS (c.cut N) (c.cut M) :=
 ZC fun id p hp=>by
  split at hp
  ·rename_i bC;rw[if_pos (by omega)];exact hp
  ·cases hp
theorem OG{h:aA}{c:Ctx}(hR:Rel h c):c.cut h.n=c:=by
 have:(fun id=>if id<h.n then c.ρ id else none)=c.ρ:=by
  funext id
  split
  ·rfl
  ·rename_i hn
   cases hr:c.ρ id with
   | none=>rfl
   | some p=>exact absurd (hR.dom id (by rw[hr];simp)) hn
 cases c
 simp only[Ctx.cut]at *
 rw[this]
theorem Rel.setLim{h:aA}{c:Ctx}(hR:Rel h c){l:Nat}(hl:l≤h.n):Rel {h with lim:=l} c:=⟨hR.len,hl,hR.dom,hR.obj,hR.inj,hR.own,hR.notX,hR.old,hR.pend,hR.glob⟩
theorem Nx{h:aA}{c:Ctx}{b:Nat}:nS (h.push .dead) (c.cut (h.n+1)).ρ b↔nS h (c.cut h.n).ρ b:=by
 constructor
 ·rintro⟨id,o,x,hg,ha,hr⟩
  rw[cM]at hg
  split at hg
  ·cases hg;simp[kC]at ha
  ·have:=iA hg
   exact⟨id,o,x,hg,ha,by rw[jL this];rw[jL (by omega)]at hr;exact hr⟩
 ·rintro⟨id,o,x,hg,ha,hr⟩
  have:=iA hg
  exact⟨id,o,x,by rw[gR this];exact hg,ha,by rw[jL (by omega)];rw[jL this]at hr;exact hr⟩
theorem Rel.pad1{h:aA}{c:Ctx}(hR:Rel h (c.cut h.n)):Rel (h.push .dead) (c.cut (h.n+1)):=by
 refine⟨xC hR.len,Nat.le_succ_of_le hR.lim,fun id fI=>?_,fun id o hg=>?_,fun i j oi oj b x y hi hj qR Oj qI yY=>?_,fun b=>?_,hR.notX,hR.old,fun b hb=>⟨(hR.pend b hb).1,fun ho=>(hR.pend b hb).2 (Nx.1 ho)⟩,hR.glob.mono (qN (by omega))⟩
 ·cases hr:(c.cut (h.n+1)).ρ id with
  | none=>exact absurd hr fI
  | some p=>exact(uR hr).1
 ·rw[cM]at hg
  split at hg
  ·cases hg;trivial
  ·exact(hR.obj id o hg).mono (qN (by omega)) (fun _ _ _ _=>rfl)
 ·have old:∀i oi,(h.push .dead).get i=some oi→kC oi=true→h.get i=some oi:=by
   intro i oi hi qR
   rw[cM]at hi
   split at hi
   ·cases hi;simp[kC]at qR
   ·exact hi
  have gi:=old i oi hi qR
  have gj:=old j oj hj Oj
  have li:=iA gi
  have lj:=iA gj
  rw[jL (by omega)]at qI yY
  exact hR.inj i j oi oj b x y gi gj qR Oj (by rw[jL li];exact qI) (by rw[jL lj];exact yY)
 ·have:=hR.own b
  show c.O b↔_∨c.E b
  rw[Nx]
  exact this
theorem Rel.pad{h:aA}{c:Ctx}(hR:Rel h (c.cut h.n)):∀j,∃ h2:aA,Rel h2 (c.cut (h.n+j))∧h2.n=h.n+j∧∀id,id<h.n→h2.get id=h.get id:=by
 intro j
 induction j with
 | zero=>exact⟨h,hR,rfl,fun _ _=>rfl⟩
 | succ j ih =>
  obtain⟨h2,k1,k2,k3⟩:=ih
  refine⟨h2.push .dead,?_,by rw[Et,k2];omega,fun id fI=>by rw[gR (by omega)];exact k3 id fI⟩
  have:=Rel.pad1 (c:=c) (h:=h2) (by rw[k2];exact k1)
  rw[k2]at this
  exact this
def Me(c:Ctx)(b ety sz:Nat)(xs:List DV):Prop:=∃ cur,0<sz∧cur.size=xs.length*sz∧oT cur∧jO c xs sz cur 0∧c.w.heap[b]?=some (.cells cur ety (0,0))
theorem Me.mono{c c':Ctx}{b ety sz:Nat}{xs:List DV}(h:Me c b ety sz xs)(dH:cS c c')(hb:c'.w.heap[b]?=c.w.heap[b]?):Me c' b ety sz xs:=by
 obtain⟨cur,h1,h2,h3,h4,h5⟩:=h
 exact⟨cur,h1,h2,h3,fun i hi=>⟨(h4 i hi).1,fun j hj=>by
  obtain⟨v,a1,a2,a3⟩:=(h4 i hi).2 j hj
  exact⟨v,a1,a2,a3.mono dH⟩⟩,hb.trans h5⟩
theorem Tm{P:Program}{o:Oper}{ety sz:Nat}{z:DV}(hc:mM P o=some (.alloc ety sz z)):o.op=.alloc ety∧∃ bytes,fF P ety=some (sz,bytes,z):=by
 unfold mM at hc
 split at hc
 case h_4 e ho =>
  split at hc
  ·rename_i eM b z' he;cases hc;exact⟨ho,b,he⟩
  ·cases hc
 all_goals ((repeat' split at hc)<;>first|(cases hc;done)|(simp at hc;done))
theorem Dl{P:Program}{o:Oper}{e sz len:Nat}{z:DV}{ps:List (Nat×Opd)}(hc:mM P o=some (.buildSlice e sz z len ps)):∃ t parts bytes,o.op=.buildSlice t len parts∧P.underlying t=some (.slice e)∧fF P e=some (sz,bytes,z) ∧
  parts.toList.mapM (fun(x:Nat×Operand)=>(opd x.2).map fun y=>(x.1,y))=some ps∧len*sz≤16777216:=by
 unfold mM at hc
 split at hc
 case h_7 t n parts ho =>
  split at hc
  ·rename_i e' ht
   split at hc
   ·rename_i eM b z' he
    split at hc
    ·rename_i ps' ZN
     split at hc
     ·rename_i hsm
      cases hc
      exact⟨t,parts,b,ho,ht,he,ZN,hsm⟩
     ·cases hc
    ·cases hc
   ·cases hc
  ·cases hc
 all_goals ((repeat' split at hc)<;>first|(cases hc;done)|(simp at hc;done))
theorem MM{P:Program}{o:Oper}{d:DOp}(hc:mM P o=some d)(ha:d.cls=.alloc){c:Ctx}{env:Env}{a:Act}(hE:eF c env a){ety sz:Nat}{xs:List DV}(hm:Gu env d=some (ety,sz,xs)) :
  ∃ w' cur val,(execOp a.eval o).run P c.w=.ok (.value val) w'∧w'.heap.size=c.w.heap.size+1∧(∀k,k<c.w.heap.size→w'.heap[k]?=c.w.heap[k]?)∧qH c.w w' ∧
   w'.heap[c.w.heap.size]?=some (.cells cur ety (0,0))∧0<sz∧cur.size=xs.length*sz∧oT cur∧jO c xs sz cur 0 ∧
   ∀(c':Ctx) (id:Nat),c'.ρ id=some (c.w.heap.size,0)→c'.w.shape? c.w.heap.size=some (ety,xs.length*sz)→VR c' (Y6 id d) val:=by
 rcases Lx ha with⟨oV,eM,z,rfl⟩|⟨oV,eM,z,len,ps,rfl⟩
 ·simp only[Gu,Option.some.injEq,Prod.mk.injEq]at hm
  obtain⟨rfl,rfl,rfl⟩:=hm
  obtain⟨ho,bytes,he⟩:=Tm hc
  obtain⟨i,z0,hi,e1,e2,hz,Ds,fP,dK⟩:=iB he
  have kZ:=Bf (c:=c) dK (fU Ds c)
  have hcells:=(fD (c:=c) dK (fU Ds c)).2.1
  refine⟨{c.w with heap:=c.w.heap.push (.cells z0.cells oV)},z0.cells,.pointer (some ⟨c.w.heap.size,0,none⟩),?_,by simp,fun k hk=>by rw[Array.getElem?_push];simp;omega,.push (ob:=.cells z0.cells oV) rfl rfl rfl rfl,by simp,fP,by simp[hcells],sW (m:=1) kZ fP (by omega) rfl,kZ,fun c' id h1 _=>?_⟩
  ·simp[execOp,ho,Instr.alloc,zeroValue,typeInfo,hi,hz,newVar,newRow]
  ·have:=VR.ptr (c:=c') (id:=id) (sz:=eM) (idx:=0) (off:=0) (b:=c.w.heap.size) (base:=0) h1
   simpa[Y6]using this
 ·simp only[Gu,Option.map_eq_some_iff]at hm
  obtain⟨xs',PE,hm⟩:=hm
  simp only[Prod.mk.injEq]at hm
  obtain⟨rfl,rfl,rfl⟩:=hm
  obtain⟨t,parts,bytes,ho,ht,he,hp,hsmall⟩:=Dl hc
  obtain⟨w',cur,r1,r2,r3,r4,r5,r6,r7⟩:=Nt (P:=P) (o:=o) (c:=c) (env:=env) (a:=a) ho ht he hp hsmall hE PE
  refine⟨w',cur,.slice (some ⟨c.w.heap.size,0,none⟩) len len,r1,by rw[r2];simp,fun k hk=>by rw[r2,Array.getElem?_push];simp;omega,.push (ob:=.cells cur oV) r2 rfl r3.1 r3.2,by rw[r2];simp,r4,r5,r6,r7,fun c' id h1 h2=>?_⟩
  have cH:xs'.length=len:=by have:=uO _ PE;rw[List.length_replicate]at this;exact this
  exact .sl h1 h2 (by rw[cH];simp) (Nat.le_refl _) (.inl (by simp))
def Li(listed:Array Bool)(i:Nat):Prop:=listed.getD i false=true
section
variable (ops:List Oper) (cU:List (Nat×aZ)) (EN:Nat→Env) (HS:Nat→List aA) (V:Nat→DV) (B:Nat→Bool) (c:Ctx) (env:Env)
structure sO(listed:Array Bool)(a:Act)(ĉ:Ctx)(m0:Nat):Prop where
 size:listed.size=ops.length
 closed:∀j o,ops[j]?=some o→Li listed j→∀e,e∈o.after.toList→Region.binds .any e=true→Li listed e.on
 asize:a.tmps.size=env.length
 defers:a.defers=[]
 vals:∀(p:Nat) (x:Nat×aZ) (t:Nat),cU[p]?=some x→Li listed x.1→x.2.dst=some t→t<env.length→VR (ĉ.cut (max (bF (HS (p+1))).n m0)) (V p) (a.tmps.getD t Go.undef)
 olds:∀t,(∀(p:Nat) (x:Nat×aZ),cU[p]?=some x→Li listed x.1→x.2.dst≠some t)→VR (ĉ.cut (max (bF (HS 0)).n m0)) ((env[t]?).getD .unk) (a.tmps.getD t Go.undef)
structure nJ(listed:Array Bool)(k:Nat)(ĉ:Ctx):Prop where
 k_le:k≤cU.length
 front:∀(p:Nat) (x:Nat×aZ),p<k→cU[p]?=some x→x.2.kind≠.read→Li listed x.1
 rel:Rel (bF (HS k)) (ĉ.cut (bF (HS k)).n)
 le:cS c (ĉ.cut (bF (HS k)).n)
 X:ĉ.X=c.X
 E:∀b,ĉ.E b→c.E b∨∃ id,(bF (HS k)).n≤id∧ĉ.ρ id=some (b,0)
 cE:∀b,c.E b→ĉ.E b
 dom:∀id b x,(bF (HS k)).n≤id→ĉ.ρ id=some (b,x)→ĉ.E b∧¬c.E b∧∃ (p:Nat) (y:Nat×aZ),k≤p∧cU[p]?=some y∧Li listed y.1∧y.2.kind≠.read∧B p=true∧id=(bF (HS p)).n
 pend:∀(p:Nat) (x:Nat×aZ),k≤p→cU[p]?=some x→x.2.kind≠.read→Li listed x.1→x.2.op.cls=.alloc ∧
  (B p=true→∃ ety sz xs b,Gu (EN p) x.2.op=some (ety,sz,xs)∧ĉ.ρ (bF (HS p)).n=some (b,0)∧Me (ĉ.cut (bF (HS p)).n) b ety sz xs)
 inj:∀id id' b,(bF (HS k)).n≤id→(bF (HS k)).n≤id'→ĉ.ρ id=some (b,0)→ĉ.ρ id'=some (b,0)→id=id'
end
section
variable {P:Program} {call:oU} {ops:List Oper} {cU:List (Nat×aZ)} {bs:List Nat} {E:Nat→Env} {HS:Nat→List aA} {LS:Nat→dE} {V:Nat→DV} {B:Nat→Bool} {c ĉ:Ctx} {env:Env} {h:aA}
 {listed:Array Bool} {a:Act} {k m0:Nat}
theorem AfA{i:Nat}(hl:Li listed i):i<listed.size:=by
 rcases Nat.lt_or_ge i listed.size with h|h
 ·exact h
 ·simp[Li,h]at hl
theorem kR{i j:Nat}(hj:j<listed.size):Li (listed.setIfInBounds j true) i↔Li listed i∨i=j:=by
 unfold Li
 by_cases e:i=j
 ·subst e;simp[hj]
 ·have:(listed.setIfInBounds j true).getD i false=listed.getD i false:=getD_set_ne false (Ne.symm e)
  rw[this];simp[e]
theorem sR(F:Fit P ops cU bs)(I:sO ops cU HS V env listed a ĉ m0):∀j,Li listed j→∀i,i<ops.length→pA bs j i=true→Li listed i:=by
 intro j
 induction j using Nat.strongRecOn with
 | _ j ih =>
  intro hj i hi hb
  have bC:j<ops.length:=by rw[←I.size];exact AfA hj
  obtain⟨e,h1,h2,h3⟩:=F.clos j ops[j] i (List.getElem?_eq_getElem bC) hi hb
  have h4:=I.closed j ops[j] (List.getElem?_eq_getElem bC) hj e h1 h2
  rcases h3 with h3|h3
  ·rw[←h3];exact h4
  ·exact ih e.on (F.edge j ops[j] e (List.getElem?_eq_getElem bC) h1 h2).2 h4 i hi h3
structure Up(ops:List Oper)(cU:List (Nat×aZ))(listed:Array Bool)(q:Nat)(x:Nat×aZ)(o:Oper):Prop where
 hx:cU[q]?=some x
 ho:ops[x.1]?=some o
 not:¬Li listed x.1
 all:∀e,e∈o.after.toList→Region.binds .any e=true→Li listed e.on
theorem Ag(F:Fit P ops cU bs)(I:sO ops cU HS V env listed a ĉ m0){q:Nat}{x:Nat×aZ}{o:Oper}(U:Up ops cU listed q x o){i:Nat}(hi:i<ops.length)(hb:pA bs x.1 i=true):Li listed i:=by
 obtain⟨e,h1,h2,h3⟩:=F.clos x.1 o i U.ho hi hb
 rcases h3 with h3|h3
 ·rw[←h3];exact U.all e h1 h2
 ·exact sR F I e.on (U.all e h1 h2) i hi h3
theorem mJ(F:Fit P ops cU bs){p:Nat}{x:Nat×aZ}(hx:cU[p]?=some x):x.1<ops.length:=by
 obtain⟨o,_,_,_,ho,_⟩:=F.comp p x hx
 exact(List.getElem?_eq_some_iff.1 ho).1
theorem De(F:Fit P ops cU bs){p q:Nat}{x y:Nat×aZ}(hx:cU[p]?=some x)(hy:cU[q]?=some y)(he:x.1=y.1):p=q:=by
 rcases Nat.lt_trichotomy p q with h|h|h
 ·exact absurd he (F.pair p q x y h hx hy).1
 ·exact h
 ·exact absurd he.symm (F.pair q p y x h hy hx).1
theorem Hu(F:Fit P ops cU bs){p q:Nat}{x y:Nat×aZ}(uI:p<q)(hx:cU[p]?=some x)(hy:cU[q]?=some y){t:Nat}(ht:x.2.dst=some t):y.2.dst≠some t:=by
 have h:=(F.pair p q x y uI hx hy).2.2
 simp only[wX,Bool.and_eq_true]at h
 have h2:=h.1.1.1.2
 intro e
 simp[ht,e]at h2
theorem Lb(F:Fit P ops cU bs){p q:Nat}{x y:Nat×aZ}(uI:p<q)(hx:cU[p]?=some x)(hy:cU[q]?=some y)(hb:pA bs y.1 x.1=false):Yi x.2 y.2=true:=by
 have h:=(F.pair p q x y uI hx hy).2.2
 simp only[wX,Bool.and_eq_true,hb,Bool.false_or]at h
 exact h.1.1.1.1
theorem Ky{x y:aZ}(h:Yi x y=true):AQ x y=false:=by
 simp only[Yi,Bool.and_eq_true,Bool.not_eq_true']at h
 exact h.1
theorem qT{p:Nat}{x:Nat×aZ}(hx:cU[p]?=some x):(cU.map (·.2))[p]?=some x.2:=by simp[hx]
theorem tB{p:Nat}{d:aZ}(hd:(cU.map (·.2))[p]?=some d):∃ x,cU[p]?=some x∧x.2=d:=by
 simp only[List.getElem?_map,Option.map_eq_some_iff]at hd
 exact hd
theorem PQ(F:Fit P ops cU bs)(T:gP call (cU.map (·.2)) env [h] .start E HS LS V B)(hc:eU call)(hl:h.lim≤h.n)(I:sO ops cU HS V env listed a ĉ m0){q:Nat}{x:Nat×aZ}{o:Oper}(U:Up ops cU listed q x o)
  {t:Nat} (ht:t∈x.2.reads):VR (ĉ.cut (max (bF (HS q)).n m0)) (((E q)[t]?).getD .unk) (a.tmps.getD t Go.undef):=by
 have hq:q<cU.length:=(List.getElem?_eq_some_iff.1 U.hx).1
 have uH:q≤(cU.map (·.2)).length:=by simp;omega
 by_cases hw:∃ (p:Nat) (y:Nat×aZ),p<q∧cU[p]?=some y∧y.2.dst=some t
 ·obtain⟨p,y,hp,hy,hd⟩:=hw
  have hb:pA bs x.1 y.1=true:=by
   cases hb:pA bs x.1 y.1 with
   | true=>rfl
   | false =>
    have h1:=Ky (Lb F hp hy U.hx hb)
    simp only[AQ,hd,Bool.or_eq_false_iff]at h1
    have h2:=h1.1.1
    rw[List.contains_eq_mem]at h2
    simp[ht]at h2
  have hly:=Ag F I U (mJ F hy) hb
  by_cases bC:t<env.length
  ·rw[T.new (qT hy) hd bC q hp uH (fun p' d' a1 a2 eJ=>by
    obtain⟨y',e1,e2⟩:=tB eJ
    subst e2
    exact Hu F a1 hy e1 hd)]
   have hn:=(T.keeps hc hl (by omega:p+1≤q) uH).n
   exact(I.vals p y t hy hly hd bC).mono (qN (by omega))
  ·rw[List.getElem?_eq_none (by rw[T.len q uH];omega)]
   exact .unk _
 ·rw[T.old q uH (fun p d hp hd e=>by
   obtain⟨y,e1,e2⟩:=tB hd
   subst e2
   exact hw ⟨p,y,hp,e1,e⟩)]
  have hn:=(T.keeps hc hl (Nat.zero_le q) uH).n
  refine(I.olds t fun p y hy hly hd=>?_).mono (qN (by omega))
  rcases Nat.lt_trichotomy p q with hp|hp|hp
  ·exact hw ⟨p,y,hp,hy,hd⟩
  ·subst hp
   have:y=x:=Option.some.inj (hy.symm.trans U.hx)
   subst this
   exact U.not hly
  ·cases hb:pA bs y.1 x.1 with
   | true=>exact U.not (sR F I y.1 hly x.1 (mJ F U.hx) hb)
   | false =>
    have h1:=Ky (Lb F hp U.hx hy hb)
    simp only[AQ,hd,Bool.or_eq_false_iff]at h1
    have h2:=h1.2
    rw[List.contains_eq_mem]at h2
    simp[ht]at h2
def sX(env:Env)(ts:List Nat):Env:=(List.range env.length).map fun t=>if t∈ts then(env[t]?).getD .unk else .unk
theorem nM{env:Env}{ts:List Nat}:mY ts env (sX env ts):=by
 intro t ht
 by_cases bC:t<env.length
 ·simp[sX,bC,ht]
 ·simp[sX,bC]
theorem Xj(F:Fit P ops cU bs)(T:gP call (cU.map (·.2)) env [h] .start E HS LS V B)(hc:eU call)(hl:h.lim≤h.n)(I:sO ops cU HS V env listed a ĉ m0){q:Nat}{x:Nat×aZ}{o:Oper}(U:Up ops cU listed q x o) :
  eF (ĉ.cut (max (bF (HS q)).n m0)) (sX (E q) x.2.reads) a:=by
 have hq:q<cU.length:=(List.getElem?_eq_some_iff.1 U.hx).1
 have uH:q≤(cU.map (·.2)).length:=by simp;omega
 refine⟨by simp[sX,T.len q uH,I.asize],I.defers,fun t ht=>?_⟩
 simp only[sX,List.length_map,List.length_range]at ht
 simp only[sX,List.getElem_map,List.getElem_range]
 split
 ·rename_i hm;exact PQ F T hc hl I U hm
 ·exact .unk _
theorem Ud{g:Option (Nat×Bool)}{env:Env}{ts:List Nat}(hg:∀t w,g=some (t,w)→t∈ts):jQ (sX env ts) g=jQ env g:=by
 cases g with
 | none=>rfl
 | some p =>
  obtain⟨t,w⟩:=p
  have ht:=hg t w rfl
  have:(sX env ts)[t]?=env[t]?:=by
   by_cases bC:t<env.length
   ·simp[sX,bC,ht]
   ·simp[sX,bC]
  simp only[jQ,this]
end
end Go.Dm
/-
Part 23 of "Dm": a region with an open order: how its state moves on.
-/
namespace Go.Dm
section
variable {P:Program} {call:oU} {ops:List Oper} {cU:List (Nat×aZ)} {bs:List Nat} {E:Nat→Env} {HS:Nat→List aA} {LS:Nat→dE} {V:Nat→DV} {B:Nat→Bool} {c ĉ ĉ1:Ctx} {env:Env} {h:aA}
 {listed:Array Bool} {a:Act} {k m0:Nat}
theorem Yg(a:Act)(dst:Option Nat)(v:Value)(t:Nat):(a.put dst v).tmps.getD t Go.undef=if dst=some t∧t<a.tmps.size then v else a.tmps.getD t Go.undef:=by
 cases dst with
 | none=>simp[Act.put]
 | some d =>
  simp only[Act.put,Array.getD_eq_getD_getElem?,Array.getElem?_setIfInBounds]
  by_cases e:d=t
  ·subst e
   by_cases bC:d<a.tmps.size
   ·simp[bC]
   ·simp[bC]
  ·simp[e]
theorem sO.mark(F:Fit P ops cU bs)(I:sO ops cU HS V env listed a ĉ m0)(dH:∀M,cS (ĉ.cut M) (ĉ1.cut M)){m1:Nat}(hm:m0≤m1){q:Nat}{x:Nat×aZ}{o:Oper}(U:Up ops cU listed q x o){v:Value}
  (hv:VR (ĉ1.cut (max (bF (HS (q+1))).n m1)) (V q) v):sO ops cU HS V env (listed.setIfInBounds x.1 true) (a.put x.2.dst v) ĉ1 m1:=by
 have bC:x.1<listed.size:=by rw[I.size];exact mJ F U.hx
 refine⟨by simp[I.size],fun j o' Kk hj e he hb=>?_,?_,?_,fun p y t hy hL hd ht=>?_,fun t tQ=>?_⟩
 ·rw[kR bC]at hj ⊢
  rcases hj with hj|hj
  ·exact .inl (I.closed j o' Kk hj e he hb)
  ·subst hj
   have:o'=o:=Option.some.inj (Kk.symm.trans U.ho)
   subst this
   exact .inl (U.all e he hb)
 ·cases x.2.dst<;>simp[Act.put,I.asize]
 ·cases x.2.dst<;>simp[Act.put,I.defers]
 ·rw[Yg]
  by_cases uI:p=q
  ·subst uI
   have:y=x:=Option.some.inj (hy.symm.trans U.hx)
   subst this
   rw[if_pos ⟨hd,by rw[I.asize];exact ht⟩]
   exact hv
  ·have eG:x.2.dst≠some t:=by
    rcases Nat.lt_or_gt_of_ne uI with h1|h1
    ·exact Hu F h1 hy U.hx hd
    ·exact fun e=>Hu F h1 U.hx hy e hd
   rw[if_neg (fun e=>eG e.1)]
   rw[kR bC]at hL
   have hL:Li listed y.1:=hL.resolve_right fun e=>uI (De F hy U.hx e)
   exact((I.vals p y t hy hL hd ht).mono (dH _)).mono (qN (by omega))
 ·rw[Yg,if_neg (fun e=>tQ q x U.hx ((kR bC).2 (.inr rfl)) e.1)]
  exact((I.olds t fun p y hy hL=>tQ p y hy ((kR bC).2 (.inl hL))).mono (dH _)).mono (qN (by omega))
theorem sO.mono(I:sO ops cU HS V env listed a ĉ m0)(dH:∀M,cS (ĉ.cut M) (ĉ1.cut M)){m1:Nat}(hm:m0≤m1):sO ops cU HS V env listed a ĉ1 m1 :=
 ⟨I.size,I.closed,I.asize,I.defers,fun p x t h1 h2 h3 h4=>((I.vals p x t h1 h2 h3 h4).mono (dH _)).mono (qN (by omega)),fun t h1=>((I.olds t h1).mono (dH _)).mono (qN (by omega))⟩
theorem nJ.same(F:Fit P ops cU bs)(I:sO ops cU HS V env listed a ĉ m0)(M:nJ cU E HS B c listed k ĉ){q:Nat}{x:Nat×aZ}{o:Oper}(U:Up ops cU listed q x o)(hk:x.2.kind=.read) :
  nJ cU E HS B c (listed.setIfInBounds x.1 true) k ĉ:=by
 have bC:x.1<listed.size:=by rw[I.size];exact mJ F U.hx
 refine⟨M.k_le,fun p y hp hy Hq=>(kR bC).2 (.inl (M.front p y hp hy Hq)),M.rel,M.le,M.X,M.E,M.cE,fun id b z fI hr=>?_,fun p y hp hy Hq hL=>?_,M.inj⟩
 ·obtain⟨h1,h2,p,y,h3,h4,h5,h6⟩:=M.dom id b z fI hr
  exact⟨h1,h2,p,y,h3,h4,(kR bC).2 (.inl h5),h6⟩
 ·rcases(kR bC).1 hL with h1|h1
  ·exact M.pend p y hp hy Hq h1
  ·have:=De F hy U.hx h1
   subst this
   have:y=x:=Option.some.inj (hy.symm.trans U.hx)
   subst this
   exact absurd hk Hq
theorem nJ.idle(F:Fit P ops cU bs)(I:sO ops cU HS V env listed a ĉ m0)(M:nJ cU E HS B c listed k ĉ){q:Nat}{x:Nat×aZ}{o:Oper}(U:Up ops cU listed q x o)(ha:x.2.op.cls=.alloc)(hb:B q=false) :
  nJ cU E HS B c (listed.setIfInBounds x.1 true) k ĉ:=by
 have bC:x.1<listed.size:=by rw[I.size];exact mJ F U.hx
 refine⟨M.k_le,fun p y hp hy Hq=>(kR bC).2 (.inl (M.front p y hp hy Hq)),M.rel,M.le,M.X,M.E,M.cE,fun id b z fI hr=>?_,fun p y hp hy Hq hL=>?_,M.inj⟩
 ·obtain⟨h1,h2,p,y,h3,h4,h5,h6⟩:=M.dom id b z fI hr
  exact⟨h1,h2,p,y,h3,h4,(kR bC).2 (.inl h5),h6⟩
 ·rcases(kR bC).1 hL with h1|h1
  ·exact M.pend p y hp hy Hq h1
  ·have:=De F hy U.hx h1
   subst this
   have:y=x:=Option.some.inj (hy.symm.trans U.hx)
   subst this
   exact⟨ha,fun e=>by rw[hb]at e;cases e⟩
theorem nJ.skip(M:nJ cU E HS B c listed k ĉ)(hk:k<cU.length)(hh:bF (HS (k+1))=bF (HS k))(hf:∀x:Nat×aZ,cU[k]?=some x→x.2.kind≠.read→Li listed x.1∧B k=false) :
  nJ cU E HS B c listed (k+1) ĉ:=by
 refine⟨hk,fun p y hp hy Hq=>?_,by rw[hh];exact M.rel,by rw[hh];exact M.le,M.X,by rw[hh];exact M.E,M.cE,fun id b z fI hr=>?_,fun p y hp=>M.pend p y (by omega),by rw[hh];exact M.inj⟩
 ·by_cases e:p=k
  ·subst e;exact(hf y hy Hq).1
  ·exact M.front p y (by omega) hy Hq
 ·rw[hh]at fI
  obtain⟨h1,h2,p,y,h3,h4,h5,h6,h7,h8⟩:=M.dom id b z fI hr
  refine⟨h1,h2,p,y,?_,h4,h5,h6,h7,h8⟩
  by_cases e:p=k
  ·subst e;rw[(hf y h4 h6).2]at h7;cases h7
  ·omega
theorem Rel.early{h:aA}{c:Ctx}(hR:Rel h c){w':World}(mT:w'.heap.size=c.w.heap.size+1)(iZ:∀k,k<c.w.heap.size→w'.heap[k]?=c.w.heap[k]?)(hq:qH c.w w') :
  Rel h ⟨w',c.ρ,fun b=>c.O b∨b=c.w.heap.size,c.X,fun b=>c.E b∨b=c.w.heap.size,c.τ⟩∧cS c ⟨w',c.ρ,fun b=>c.O b∨b=c.w.heap.size,c.X,fun b=>c.E b∨b=c.w.heap.size,c.τ⟩:=by
 have dH:cS c ⟨w',c.ρ,fun b=>c.O b∨b=c.w.heap.size,c.X,fun b=>c.E b∨b=c.w.heap.size,c.τ⟩ :=
  ⟨fun _ _ h=>h,by simp only[mT];omega,fun b hb _=>iZ b hb,fun b hb=>hb.imp id (fun e=>by omega),fun b e n hs=>by
   have:=Jf hs
   simp only[World.shape?]at hs ⊢
   rw[iZ b this];exact hs,fun _ h=>h,fun b hb hE=>⟨hE.resolve_right (by omega),iZ b hb⟩,hq,rfl⟩
 have qV:∀b,nS h c.ρ b→b<c.w.heap.size:=fun b ⟨id,o,x,hg,ha,hr⟩=>hR.block_lt hg ha hr
 refine⟨⟨hR.len,hR.lim,hR.dom,fun id o hg=>(hR.obj id o hg).mono dH (fun ha b x hr=>iZ b (hR.block_lt hg ha hr)),hR.inj,fun b=>?_,fun b hb hx=>?_,fun b hb=>?_,fun b hb=>?_,hR.glob.mono dH⟩,dH⟩
 ·show c.O b∨_↔nS h c.ρ b∨(c.E b∨_)
  rw[hR.own b,or_assoc]
 ·rcases hb with hb|hb
  ·exact hR.notX b hb hx
  ·have:=hR.old b hx;omega
 ·have:=hR.old b hb
  show b<w'.heap.size
  omega
 ·rcases hb with hb|hb
  ·exact⟨by show b<w'.heap.size;have:=(hR.pend b hb).1;omega,(hR.pend b hb).2⟩
  ·exact⟨by show b<w'.heap.size;omega,fun ho=>by have:=qV b ho;omega⟩
theorem nJ.early(F:Fit P ops cU bs)(T:gP call (cU.map (·.2)) env [h] .start E HS LS V B)(hc:eU call)(hl:h.lim≤h.n)(I:sO ops cU HS V env listed a ĉ m0)(M:nJ cU E HS B c listed k ĉ)
  {q:Nat} {x:Nat×aZ} {o:Oper} (U:Up ops cU listed q x o) (hkq:k≤q) (Ks:x.2.op.cls=.alloc) {ety sz:Nat} {xs:List DV} (hmd:Gu (E q) x.2.op=some (ety,sz,xs)) (hb:B q=true)
  {w':World} (mT:w'.heap.size=ĉ.w.heap.size+1) (iZ:∀k,k<ĉ.w.heap.size→w'.heap[k]?=ĉ.w.heap[k]?) (hqt:qH ĉ.w w') {cur:Array Value} (hnew:w'.heap[ĉ.w.heap.size]?=some (.cells cur ety (0,0))) (SP:0<sz) (Ht:cur.size=xs.length*sz) (uJ:oT cur) (kZ:jO (ĉ.cut (bF (HS q)).n) xs sz cur 0) :
  ∃ ĉ1:Ctx,ĉ1.w=w'∧(∀M,cS (ĉ.cut M) (ĉ1.cut M))∧nJ cU E HS B c (listed.setIfInBounds x.1 true) k ĉ1∧ĉ1.ρ (bF (HS q)).n=some (ĉ.w.heap.size,0):=by
 have bC:x.1<listed.size:=by rw[I.size];exact mJ F U.hx
 have hq:q<cU.length:=(List.getElem?_eq_some_iff.1 U.hx).1
 have uH:q<(cU.map (·.2)).length:=by simp;omega
 have Ss:(bF (HS k)).n≤(bF (HS q)).n:=(T.keeps hc hl hkq (by omega)).n
 have hkind:∀(p:Nat) (y:Nat×aZ),cU[p]?=some y→y.2.op.cls=.alloc→y.2.kind=.create:=fun p y hy ha=>by
  have:=F.kind p y hy
  unfold qC at this
  rw[ha]at this
  cases hk:y.2.kind<;>rw[hk]at this<;>first|rfl|cases this
 have uT:∀(p p':Nat) (y y':Nat×aZ),cU[p]?=some y→cU[p']?=some y'→y.2.op.cls=.alloc→B p=true→p<p'→(bF (HS p)).n<(bF (HS p')).n:=by
  intro p p' y y' hy ZK ha hB O8
  obtain⟨e',s',xs',_,_,h1⟩:=T.alloc (qT hy) ha (hkind p y hy ha) hB
  have qQ:p'<(cU.map (·.2)).length:=by simp;exact(List.getElem?_eq_some_iff.1 ZK).1
  have h2:=(T.keeps hc hl (by omega:p+1≤p') (by omega)).n
  rw[h1,Et]at h2
  omega
 have hnone:ĉ.ρ (bF (HS q)).n=none:=by
  cases hr:ĉ.ρ (bF (HS q)).n with
  | none=>rfl
  | some pr =>
   obtain⟨b,x0⟩:=pr
   obtain⟨_,_,p,y,h3,h4,h5,h6,h7,h8⟩:=M.dom _ b x0 Ss hr
   have ha:=(M.pend p y h3 h4 h6 h5).1
   rcases Nat.lt_trichotomy p q with hh|hh|hh
   ·have:=uT p q y x h4 U.hx ha h7 hh;omega
   ·subst hh
    have:y=x:=Option.some.inj (h4.symm.trans U.hx)
    subst this
    exact absurd h5 U.not
   ·have:=uT q p x y U.hx h4 Ks hb hh;omega
 let ĉ1:Ctx:=⟨w',fun id=>if id=(bF (HS q)).n then some (ĉ.w.heap.size,0)else ĉ.ρ id,fun b=>ĉ.O b∨b=ĉ.w.heap.size,ĉ.X,fun b=>ĉ.E b∨b=ĉ.w.heap.size,ĉ.τ⟩
 have hrho:∀id p,ĉ.ρ id=some p→ĉ1.ρ id=some p:=fun id p hp=>by
  have:id≠(bF (HS q)).n:=fun e=>by subst e;rw[hnone]at hp;cases hp
  simp only[ĉ1,if_neg this];exact hp
 obtain⟨hrel,Xz⟩:=M.rel.early (w':=w') mT iZ hqt
 have Yb:ĉ1.cut (bF (HS k)).n=⟨w',(ĉ.cut (bF (HS k)).n).ρ,fun b=>ĉ.O b∨b=ĉ.w.heap.size,ĉ.X,fun b=>ĉ.E b∨b=ĉ.w.heap.size,ĉ.τ⟩:=by
  have:(fun id=>if id<(bF (HS k)).n then ĉ1.ρ id else none)=(ĉ.cut (bF (HS k)).n).ρ:=by
   funext id
   simp only[Ctx.cut]
   split
   ·have:id≠(bF (HS q)).n:=by omega
    simp only[ĉ1,if_neg this]
   ·rfl
  simp only[Ctx.cut]at this ⊢
  rw[this]
 have hleM:∀M,cS (ĉ.cut M) (ĉ1.cut M):=fun M =>
  ⟨fun id p hp=>by
   obtain⟨h1,h2⟩:=uR hp
   rw[jL h1];exact hrho id p h2,Xz.size,Xz.frame,Xz.own,Xz.shape,Xz.X,Xz.pend,Xz.quiet,Xz.tok⟩
 have hElt:∀b,ĉ.E b→b<ĉ.w.heap.size:=fun b hb=>(M.rel.pend b hb).1
 refine⟨ĉ1,rfl,hleM,⟨M.k_le,fun p y hp hy Hq=>(kR bC).2 (.inl (M.front p y hp hy Hq)),by rw[Yb];exact hrel,M.le.trans (hleM _),M.X,fun b hE=>?_,fun b hE=>.inl (M.cE b hE),fun id b z' fI hr=>?_,fun p y hp hy Hq hL=>?_,fun id id' b h1 h2 h3 h4=>?_⟩,by simp[ĉ1]⟩
 ·rcases hE with hE|hE
  ·exact(M.E b hE).imp (fun x=>x) fun⟨id,h1,h2⟩=>⟨id,h1,hrho id _ h2⟩
  ·subst hE;exact .inr ⟨(bF (HS q)).n,Ss,by simp[ĉ1]⟩
 ·by_cases e:id=(bF (HS q)).n
  ·simp only[ĉ1,if_pos e,Option.some.injEq,Prod.mk.injEq]at hr
   refine⟨.inr hr.1.symm,fun hE=>?_,q,x,hkq,U.hx,(kR bC).2 (.inr rfl),?_,hb,e⟩
   ·have:=hElt b (M.cE b hE);omega
   ·rw[hkind q x U.hx Ks];simp
  ·simp only[ĉ1,if_neg e]at hr
   obtain⟨g1,g2,p,y,g3,g4,g5,g6⟩:=M.dom id b z' fI hr
   exact⟨.inl g1,g2,p,y,g3,g4,(kR bC).2 (.inl g5),g6⟩
 ·rcases(kR bC).1 hL with h1|h1
  ·obtain⟨g1,g2⟩:=M.pend p y hp hy Hq h1
   refine⟨g1,fun hB=>?_⟩
   obtain⟨e',s',xs',b,f1,f2,f3⟩:=g2 hB
   have qQ:p<(cU.map (·.2)).length:=by simp;exact(List.getElem?_eq_some_iff.1 hy).1
   have hE:=(M.dom _ b 0 (T.keeps hc hl hp (by omega)).n f2).1
   exact⟨e',s',xs',b,f1,hrho _ _ f2,f3.mono (hleM _) (iZ b (hElt b hE))⟩
  ·have:=De F hy U.hx h1
   subst this
   have:y=x:=Option.some.inj (hy.symm.trans U.hx)
   subst this
   exact⟨Ks,fun _=>⟨ety,sz,xs,_,hmd,by simp[ĉ1],cur,SP,Ht,uJ,fun i hi=>⟨(kZ i hi).1,fun j hj=>by
    obtain⟨v,a1,a2,a3⟩:=(kZ i hi).2 j hj
    exact⟨v,a1,a2,a3.mono (hleM _)⟩⟩,hnew⟩⟩
 ·by_cases e1:id=(bF (HS q)).n<;>by_cases e2:id'=(bF (HS q)).n
  ·omega
  ·simp only[ĉ1,if_pos e1,if_neg e2,Option.some.injEq,Prod.mk.injEq]at h3 h4
   have:=hElt b (M.dom _ b 0 h2 h4).1
   omega
  ·simp only[ĉ1,if_neg e1,if_pos e2,Option.some.injEq,Prod.mk.injEq]at h3 h4
   have:=hElt b (M.dom _ b 0 h1 h3).1
   omega
  ·simp only[ĉ1,if_neg e1,if_neg e2]at h3 h4
   exact M.inj id id' b h1 h2 h3 h4
end
end Go.Dm
/-
Part 24 of "Dm": a region with an open order: what turns the heap; whatever order is picked.
-/
namespace Go.Dm
section
variable {P:Program} {call:oU} {ops:List Oper} {cU:List (Nat×aZ)} {bs:List Nat} {E:Nat→Env} {HS:Nat→List aA} {LS:Nat→dE} {V:Nat→DV} {B:Nat→Bool} {c ĉ ĉ1:Ctx} {env:Env} {h:aA}
 {listed:Array Bool} {a:Act} {k m0:Nat}
theorem nJ.turn(F:Fit P ops cU bs)(T:gP call (cU.map (·.2)) env [h] .start E HS LS V B)(hc:eU call)(hl:h.lim≤h.n)(I:sO ops cU HS V env listed a ĉ m0)(M:nJ cU E HS B c listed k ĉ)
  {x:Nat×aZ} {o:Oper} (U:Up ops cU listed k x o) {w':World} {v:Value} {d:DV} (hp:pR (bF (HS k)) (ĉ.cut (bF (HS k)).n) (bF (HS (k+1))) w' d v) :
  ∃ ĉ1:Ctx,ĉ1.w=w'∧(∀M,cS (ĉ.cut M) (ĉ1.cut M))∧nJ cU E HS B c (listed.setIfInBounds x.1 true) (k+1) ĉ1∧VR (ĉ1.cut (bF (HS (k+1))).n) d v:=by
 have bC:x.1<listed.size:=by rw[I.size];exact mJ F U.hx
 have hk:k<cU.length:=(List.getElem?_eq_some_iff.1 U.hx).1
 have qJ:k+1≤(cU.map (·.2)).length:=by simp;omega
 have Ss:=(T.keeps hc hl (by omega:k≤k+1) qJ).n
 obtain⟨ρ',k1,k2,k3⟩:=hp
 let ĉ1:Ctx:=⟨w',fun id=>if id<(bF (HS (k+1))).n then ρ' id else ĉ.ρ id,fun b=>nS (bF (HS (k+1))) ρ' b∨ĉ.E b,ĉ.X,ĉ.E,ĉ.τ⟩
 have Yb:ĉ1.cut (bF (HS (k+1))).n=(ĉ.cut (bF (HS k)).n).next w' ρ' (bF (HS (k+1))):=by
  have:(fun id=>if id<(bF (HS (k+1))).n then ĉ1.ρ id else none)=ρ':=by
   funext id
   split
   ·rename_i fI;simp only[ĉ1,if_pos fI]
   ·rename_i fI
    cases hr:ρ' id with
    | none=>rfl
    | some p=>exact absurd (k1.dom id (by show ρ' id≠none;rw[hr];simp)) fI
  simp only[Ctx.cut,Ctx.next]at this ⊢
  rw[this]
 have far:∀id b z,(bF (HS k)).n≤id→ĉ.ρ id=some (b,z)→(bF (HS (k+1))).n≤id∧ĉ1.ρ id=ĉ.ρ id∧ĉ.E b∧¬c.E b ∧
   ∃ (p:Nat) (y:Nat×aZ),k+1≤p∧cU[p]?=some y∧Li listed y.1∧y.2.kind≠.read∧B p=true∧id=(bF (HS p)).n:=by
  intro id b z fI hr
  obtain⟨h1,h2,p,y,h3,h4,h5,h6,h7,h8⟩:=M.dom id b z fI hr
  have eG:p≠k:=fun e=>by
   subst e
   have:y=x:=Option.some.inj (h4.symm.trans U.hx)
   subst this
   exact U.not h5
  have qQ:p<(cU.map (·.2)).length:=by simp;exact(List.getElem?_eq_some_iff.1 h4).1
  have h9:=(T.keeps hc hl (by omega:k+1≤p) (by omega)).n
  have hY:(bF (HS (k+1))).n≤id:=by omega
  exact⟨hY,by simp only[ĉ1,if_neg (Nat.not_lt.2 hY)],h1,h2,p,y,by omega,h4,h5,h6,h7,h8⟩
 have hleM:∀M,cS (ĉ.cut M) (ĉ1.cut M):=fun N =>
  ⟨fun id p hp=>by
   obtain⟨h1,h2⟩:=uR hp
   rw[jL h1]
   by_cases fI:id<(bF (HS k)).n
   ·have:=k2.rho id p (by rw[jL fI];exact h2)
    have h3:id<(bF (HS (k+1))).n:=by omega
    simp only[ĉ1,if_pos h3];exact this
   ·obtain⟨b,z⟩:=p
    rw[(far id b z (by omega) h2).2.1];exact h2,k2.size,k2.frame,k2.own,k2.shape,k2.X,k2.pend,k2.quiet,k2.tok⟩
 refine⟨ĉ1,rfl,hleM,⟨hk,fun p y hp hy Hq=>?_,by rw[Yb];exact k1,?_,M.X,fun b hE=>?_,M.cE,fun id b z fI hr=>?_,fun p y hp hy Hq hL=>?_,fun id id' b h1 h2 h3 h4=>?_⟩,by rw[Yb];exact k3⟩
 ·rw[kR bC]
  by_cases e:p=k
  ·subst e
   have:y=x:=Option.some.inj (hy.symm.trans U.hx)
   subst this
   exact .inr rfl
  ·exact .inl (M.front p y (by omega) hy Hq)
 ·exact M.le.trans ((hleM _).trans (qN Ss))
 ·exact(M.E b hE).imp (fun x=>x) fun⟨id,h1,h2⟩=>⟨id,(far id b 0 h1 h2).1,by rw[(far id b 0 h1 h2).2.1];exact h2⟩
 ·have Aq:ĉ.ρ id=some (b,z):=by simp only[ĉ1,if_neg (Nat.not_lt.2 fI)]at hr;exact hr
  obtain⟨_,_,g1,g2,p,y,g3,g4,g5,g6⟩:=far id b z (by omega) Aq
  exact⟨g1,g2,p,y,g3,g4,(kR bC).2 (.inl g5),g6⟩
 ·rcases(kR bC).1 hL with h1|h1
  ·obtain⟨g1,g2⟩:=M.pend p y (by omega) hy Hq h1
   refine⟨g1,fun hB=>?_⟩
   obtain⟨e',s',xs',b,f1,f2,f3⟩:=g2 hB
   have qQ:p<(cU.map (·.2)).length:=by simp;exact(List.getElem?_eq_some_iff.1 hy).1
   have hn:=(T.keeps hc hl (by omega:k≤p) (by omega)).n
   obtain⟨_,g4,g5,_⟩:=far _ b 0 hn f2
   have qW:=(M.rel.pend b g5).1
   exact⟨e',s',xs',b,f1,by rw[g4];exact f2,f3.mono (hleM _) (k2.pend b qW g5).2⟩
  ·have:=De F hy U.hx h1
   omega
 ·have h3':ĉ.ρ id=some (b,0):=by simp only[ĉ1,if_neg (Nat.not_lt.2 h1)]at h3;exact h3
  have TF:ĉ.ρ id'=some (b,0):=by simp only[ĉ1,if_neg (Nat.not_lt.2 h2)]at h4;exact h4
  exact M.inj id id' b (by omega) (by omega) h3' TF
theorem Rel.adopt{h:aA}{c:Ctx}(hR:Rel h (c.cut h.n)){b ety sz:Nat}{xs:List DV}(hr:c.ρ h.n=some (b,0))(hE:c.E b)(hf:Me (c.cut h.n) b ety sz xs) :
  Rel (h.push (.arr ety sz xs (some xs.length))) (Ctx.cut {c with E:=fun y=>c.E y∧y≠b} (h.n+1)):=by
 obtain⟨cur,f1,f2,f3,f4,f5⟩:=hf
 have dH:cS (c.cut h.n) (Ctx.cut {c with E:=fun y=>c.E y∧y≠b} (h.n+1)) :=
  ⟨fun id p hp=>by
   obtain⟨h1,h2⟩:=uR hp
   rw[jL (by omega)];exact h2,Nat.le_refl _,fun _ _ _=>rfl,fun _ h=>.inl h,fun _ _ _ h=>h,fun _ h=>h,fun _ _ h=>⟨h.1,rfl⟩,.refl _,rfl⟩
 have rho:∀id,id<h.n→(Ctx.cut {c with E:=fun y=>c.E y∧y≠b} (h.n+1)).ρ id=(c.cut h.n).ρ id:=fun id fI=>by rw[jL (by omega),jL fI]
 have rhon:(Ctx.cut {c with E:=fun y=>c.E y∧y≠b} (h.n+1)).ρ h.n=some (b,0):=by rw[jL (by omega)];exact hr
 have hnot:=(hR.pend b hE).2
 have qV:∀y,nS (h.push (.arr ety sz xs (some xs.length))) (Ctx.cut {c with E:=fun y=>c.E y∧y≠b} (h.n+1)).ρ y↔nS h (c.cut h.n).ρ y∨y=b:=by
  intro y
  constructor
  ·rintro⟨id,o,x,hg,ha,Aq⟩
   rw[cM]at hg
   split at hg
   ·rename_i e;subst e
    rw[rhon]at Aq;cases Aq;exact .inr rfl
   ·have:=iA hg
    rw[rho id this]at Aq
    exact .inl ⟨id,o,x,hg,ha,Aq⟩
  ·rintro(⟨id,o,x,hg,ha,Aq⟩|e)
   ·have:=iA hg
    exact⟨id,o,x,by rw[gR this];exact hg,ha,by rw[rho id this];exact Aq⟩
   ·subst e
    exact⟨h.n,_,0,cR,rfl,rhon⟩
 refine⟨xC hR.len,Nat.le_succ_of_le hR.lim,fun id fI=>?_,fun id o hg=>?_,fun i j oi oj y x1 x2 hi hj qR Oj qI yY=>?_,fun y=>?_,hR.notX,hR.old,fun y hy=>⟨(hR.pend y hy.1).1,fun ho=>?_⟩,hR.glob.mono dH⟩
 ·cases Aq:(Ctx.cut {c with E:=fun y=>c.E y∧y≠b} (h.n+1)).ρ id with
  | none=>exact absurd Aq fI
  | some p=>exact(uR Aq).1
 ·rw[cM]at hg
  split at hg
  ·rename_i e;subst e
   cases hg
   exact⟨b,0,cur,xs.length,rhon,f5,f1,by omega,Nat.le_refl _,(fun k hk=>by cases hk;exact⟨rfl,rfl⟩),f3,fun i hi=>⟨(f4 i hi).1,fun j hj=>by
    obtain⟨v,a1,a2,a3⟩:=(f4 i hi).2 j hj
    exact⟨v,a1,a2,a3.mono dH⟩⟩⟩
  ·exact(hR.obj id o hg).mono dH (fun _ _ _ _=>rfl)
 ·rw[cM]at hi hj
  split at hi<;>split at hj
  ·omega
  ·rename_i e1 e2
   subst e1
   rw[rhon]at qI;cases qI
   have:=iA hj
   rw[rho j this]at yY
   exact absurd ⟨j,oj,x2,hj,Oj,yY⟩ hnot
  ·rename_i e1 e2
   subst e2
   rw[rhon]at yY;cases yY
   have:=iA hi
   rw[rho i this]at qI
   exact absurd ⟨i,oi,x1,hi,qR,qI⟩ hnot
  ·have l1:=iA hi
   have l2:=iA hj
   rw[rho i l1]at qI
   rw[rho j l2]at yY
   exact hR.inj i j oi oj y x1 x2 hi hj qR Oj qI yY
 ·have:=hR.own y
  show c.O y↔_∨(c.E y∧y≠b)
  rw[qV y]
  have h2:c.O y↔nS h (c.cut h.n).ρ y∨c.E y:=this
  rw[h2]
  by_cases e:y=b
  ·subst e;simp[hE]
  ·simp[e]
 ·rcases(qV y).1 ho with h1|h1
  ·exact(hR.pend y hy.1).2 h1
  ·exact hy.2 h1
theorem Bo(F:Fit P ops cU bs){p:Nat}{y:Nat×aZ}(hy:cU[p]?=some y)(ha:y.2.op.cls=.alloc):y.2.kind=.create:=by
 have:=F.kind p y hy
 unfold qC at this
 rw[ha]at this
 cases hk:y.2.kind<;>rw[hk]at this<;>first|rfl|cases this
theorem nJ.adopt(F:Fit P ops cU bs)(T:gP call (cU.map (·.2)) env [h] .start E HS LS V B)(M:nJ cU E HS B c listed k ĉ){x:Nat×aZ}(hx:cU[k]?=some x)(hk:x.2.kind≠.read)(hL:Li listed x.1)(hb:B k=true) :
  ∃ ĉ1:Ctx,ĉ1.w=ĉ.w∧(∀M,cS (ĉ.cut M) (ĉ1.cut M))∧nJ cU E HS B c listed (k+1) ĉ1:=by
 have bC:k<cU.length:=(List.getElem?_eq_some_iff.1 hx).1
 obtain⟨ha,h2⟩:=M.pend k x (Nat.le_refl _) hx hk hL
 obtain⟨ety,sz,xs,b,ho,hr,hf⟩:=h2 hb
 obtain⟨hE,hcE,_⟩:=M.dom _ b 0 (Nat.le_refl _) hr
 obtain⟨ety2,sz2,xs2,hm2,_,hh⟩:=T.alloc (qT hx) ha (Bo F hx ha) hb
 rw[ho]at hm2
 cases hm2
 have hn:(bF (HS (k+1))).n=(bF (HS k)).n+1:=by rw[hh];rfl
 have hleM:∀N,cS (ĉ.cut N) (Ctx.cut {ĉ with E:=fun y=>ĉ.E y∧y≠b} N):=fun N =>
  ⟨fun _ _ hp=>hp,Nat.le_refl _,fun _ _ _=>rfl,fun _ h=>.inl h,fun _ _ _ h=>h,fun _ h=>h,fun _ _ h=>⟨h.1,rfl⟩,.refl _,rfl⟩
 refine⟨{ĉ with E:=fun y=>ĉ.E y∧y≠b},rfl,hleM,⟨bC,fun p y hp hy Hq=>?_,?_,M.le.trans ((hleM _).trans (qN (by omega))),M.X,fun y hy=>?_,fun y hy=>⟨M.cE y hy,fun e=>hcE (e ▸ hy)⟩,fun id y x0 fI Aq=>?_,fun p y hp hy Hq hL=>⟨(M.pend p y (by omega) hy Hq hL).1,fun hB=>by
  obtain⟨e',s',xs',b',q1,q2,q3⟩:=(M.pend p y (by omega) hy Hq hL).2 hB
  exact⟨e',s',xs',b',q1,q2,q3.mono (hleM _) rfl⟩⟩,fun id id' y h1 h2=>M.inj id id' y (by omega) (by omega)⟩⟩
 ·by_cases e:p=k
  ·subst e
   have:y=x:=Option.some.inj (hy.symm.trans hx)
   subst this
   exact hL
  ·exact M.front p y (by omega) hy Hq
 ·rw[hn,hh]
  exact M.rel.adopt hr hE hf
 ·refine(M.E y hy.1).imp (fun x=>x) fun⟨id,h1,h2⟩=>⟨id,?_,h2⟩
  have:id≠(bF (HS k)).n:=fun e=>by
   subst e
   rw[hr]at h2
   cases h2
   exact hy.2 rfl
  omega
 ·obtain⟨g1,g2,p,yy,g3,g4,g5,g6,g7,g8⟩:=M.dom id y x0 (by omega) Aq
  have hpk:p≠k:=fun e=>by subst e;omega
  refine⟨⟨g1,fun e=>?_⟩,g2,p,yy,by omega,g4,g5,g6,g7,g8⟩
  subst e
  obtain⟨_,_,_,b',_,f2,_⟩:=(M.pend p yy g3 g4 g6 g5).2 g7
  rw[←g8]at f2
  rw[f2]at Aq
  cases Aq
  have:=M.inj id (bF (HS k)).n y (by omega) (Nat.le_refl _) f2 hr
  omega
def Max(cU:List (Nat×aZ))(listed:Array Bool)(k:Nat):Prop:=k=cU.length∨∃ x:Nat×aZ,cU[k]?=some x∧x.2.kind≠.read∧¬Li listed x.1
theorem gP.same(T:gP call (cU.map (·.2)) env [h] .start E HS LS V B){x:Nat×aZ}(hx:cU[k]?=some x)(hk:x.2.kind=.read∨B k=false):bF (HS (k+1))=bF (HS k):=by
 obtain⟨⟨hw,g,gs,hg,hf,ht⟩,_⟩:=T.step k x.2 (qT hx)
 cases hb:B k with
 | false =>
  obtain⟨_,e,_⟩:=hf hb
  rw[e]
  split
  ·rfl
  ·rw[hg];rfl
 | true =>
  rcases hk with hk|hk
  ·rcases ht hb with⟨_,e,_⟩|⟨qJ,_⟩|⟨qJ,_⟩|⟨qJ,_⟩
   ·rw[e]
   ·rw[hk]at qJ;cases qJ
   ·rw[hk]at qJ;cases qJ
   ·rw[hk]at qJ;cases qJ
  ·rw[hb]at hk;cases hk
theorem nJ.advance(F:Fit P ops cU bs)(T:gP call (cU.map (·.2)) env [h] .start E HS LS V B)(hc:eU call)(hl:h.lim≤h.n):∀(j k:Nat) (ĉ:Ctx),cU.length-k=j→nJ cU E HS B c listed k ĉ →
  ∃ k1 ĉ1,k≤k1∧(bF (HS k)).n≤(bF (HS k1)).n∧ĉ1.w=ĉ.w∧(∀M,cS (ĉ.cut M) (ĉ1.cut M))∧nJ cU E HS B c listed k1 ĉ1∧Max cU listed k1:=by
 intro j
 induction j with
 | zero =>
  intro k ĉ hj M
  exact⟨k,ĉ,Nat.le_refl _,Nat.le_refl _,rfl,fun _=>.refl _,M,.inl (by have:=M.k_le;omega)⟩
 | succ j ih =>
  intro k ĉ hj M
  have bC:k<cU.length:=by omega
  have hx:cU[k]?=some cU[k]:=List.getElem?_eq_getElem bC
  have hn:=(T.keeps hc hl (by omega:k≤k+1) (by simp;omega)).n
  have go:∀ĉ1:Ctx,ĉ1.w=ĉ.w→(∀M,cS (ĉ.cut M) (ĉ1.cut M))→nJ cU E HS B c listed (k+1) ĉ1 →
    ∃ k1 ĉ1,k≤k1∧(bF (HS k)).n≤(bF (HS k1)).n∧ĉ1.w=ĉ.w∧(∀M,cS (ĉ.cut M) (ĉ1.cut M))∧nJ cU E HS B c listed k1 ĉ1∧Max cU listed k1:=by
   intro ĉ1 h1 h2 h3
   obtain⟨k2,ĉ2,g0,g1,g2,g3,g4,g5⟩:=ih (k+1) ĉ1 (by omega) h3
   exact⟨k2,ĉ2,by omega,by omega,g2.trans h1,fun N=>(h2 N).trans (g3 N),g4,g5⟩
  by_cases hk:cU[k].2.kind=.read
  ·exact go ĉ rfl (fun _=>.refl _) (M.skip bC (T.same hx (.inl hk)) (fun x uG qJ=>by
    have:x=cU[k]:=Option.some.inj (uG.symm.trans hx)
    subst this
    exact absurd hk qJ))
  ·by_cases hL:Li listed cU[k].1
   ·cases hb:B k with
    | false =>
     exact go ĉ rfl (fun _=>.refl _) (M.skip bC (T.same hx (.inr hb)) (fun x uG qJ=>by
      have:x=cU[k]:=Option.some.inj (uG.symm.trans hx)
      subst this
      exact⟨hL,hb⟩))
    | true =>
     obtain⟨ĉ1,h1,h2,h3⟩:=M.adopt F T hx hk hL hb
     exact go ĉ1 h1 h2 h3
   ·exact⟨k,ĉ,Nat.le_refl _,Nat.le_refl _,rfl,fun _=>.refl _,M,.inr ⟨_,hx,hk,hL⟩⟩
end
end Go.Dm
