/- A part of the proof. -/
import Derived.Test.YtegofjiikhlokaaGreatDoorMm1
set_option linter.all false
namespace Go.Dm
def nA:DOp→Bool
 | .alloc ..|.box ..|.buildSlice ..|.store ..|.append ..|.appendZ ..|.copy ..|.clear ..|.makeSlice ..|.makeMap|.mapUpdate ..|.delete ..|.call ..=>true
 | _=>false
def W9(P:Program)(h:aA)(c:Ctx)(o:Oper)(a:Act)(h':aA)(r:DV)(d:DOp):Prop :=
 match nA d with
 | true=>jC P h c o a h' r
 | false=>bP P h c o a h' r
section
variable {P:Program} {h h':aA} {c:Ctx} {env:Env} {a:Act} {o:Oper} {r:DV}
theorem VO{d:DOp}(hc:mP P o=some d)(hnc:∀f as,d≠.call f as)(hR:Rel h c)(hE:eI c env a)(hs:aK h env d=some (r,h')):W9 P h c o a h' r d:=by
 unfold mP at hc
 split at hc
 ·rename_i x ho
  simp only[Option.map_eq_some_iff]at hc
  obtain⟨x',hx,rfl⟩:=hc
  exact LI (.inl ho) hx hR hE hs
 ·rename_i x ho
  simp only[Option.map_eq_some_iff]at hc
  obtain⟨x',hx,rfl⟩:=hc
  exact LI (.inr ho) hx hR hE hs
 ·rename_i x y z ho
  split at hc
  ·rename_i x' y' z' hx hy hz;cases hc;exact ZC ho hx hy hz hR hE hs
  ·cases hc
 ·rename_i e ho
  split at hc
  ·rename_i sz b z he;cases hc;exact SD ho he hR hE hs
  ·cases hc
 ·rename_i e x ho
  split at hc
  ·rename_i sz b z x' he hx;cases hc;exact AdG ho he hx hR hE hs
  ·cases hc
 ·rename_i t parts ho
  split at hc
  ·rename_i fs sz b z ht he
   split at hc
   ·rename_i ps hp
    split at hc
    ·rename_i lD;cases hc;exact Nd ho ht he hp lD hR hE hs
    ·cases hc
   ·cases hc
  ·rename_i n e sz b z ht he
   split at hc
   ·rename_i esz eb ez Pc
    split at hc
    ·rename_i ps hp;cases hc;exact Sg ho ht he Pc hp hR hE hs
    ·cases hc
   ·cases hc
  ·cases hc
 ·rename_i t len parts ho
  split at hc
  ·rename_i e ht
   split at hc
   ·rename_i sz b z he
    split at hc
    ·rename_i ps hp
     split at hc
     ·rename_i hsm;cases hc;exact Sf ho ht he hp hsm hR hE hs
     ·cases hc
    ·cases hc
   ·cases hc
  ·cases hc
 ·rename_i t x ho
  split at hc
  ·rename_i n x' hn hx;cases hc;exact ZD ho hn hx hR hE hs
  ·cases hc
 ·rename_i t x y ho
  split at hc
  ·rename_i i x' y' hi hx hy
   split at hc
   ·cases hc;exact RY ho hi hx hy hR hE hs
   ·cases hc
  ·cases hc
 ·rename_i x ho
  simp only[Option.map_eq_some_iff]at hc
  obtain⟨x',hx,rfl⟩:=hc
  exact M5 ho hx hR hE hs
 ·rename_i op t x y u ho
  split at hc
  ·rename_i x' y' hx hy
   split at hc
   ·cases hc;exact AI ho hx hy hR hE hs
   ·cases hc;exact AI ho hx hy hR hE hs
   ·rename_i hu
    split at hc
    ·cases hc;exact VS (neq:=false) (by simpa using ho) hu hx hy hR hE hs
    ·cases hc;exact VS (neq:=true) (by simpa using ho) hu hx hy hR hE hs
    ·cases hc
   ·rename_i fs hu
    split at hc
    ·rename_i ks hk;cases hc;exact AH (neq:=false) (by simpa using ho) (by simp[eX,hu]) hk hx hy hR hE hs
    ·rename_i ks hk;cases hc;exact AH (neq:=true) (by simpa using ho) (by simp[eX,hu]) hk hx hy hR hE hs
    ·cases hc
   ·rename_i n e hu
    split at hc
    ·rename_i ks hk;cases hc;exact AH (neq:=false) (by simpa using ho) (by simp[eX,hu]) hk hx hy hR hE hs
    ·rename_i ks hk;cases hc;exact AH (neq:=true) (by simpa using ho) (by simp[eX,hu]) hk hx hy hR hE hs
    ·cases hc
   ·rename_i desc _ _ _ _ _ hu
    split at hc
    ·rename_i k hk
     split at hc
     ·rename_i zH
      split at hc
      ·cases hc;exact VQ (neq:=false) (by simpa using ho) hu hk zH hx hy hR hE hs
      ·cases hc;exact VQ (neq:=true) (by simpa using ho) hu hk zH hx hy hR hE hs
      ·cases hc
     ·cases hc
    ·cases hc
   ·cases hc
  ·cases hc
 ·rename_i op t x ho
  simp only[Option.map_eq_some_iff]at hc
  obtain⟨x',hx,rfl⟩:=hc
  exact s_un ho hx hR hE hs
 ·rename_i src dst x ho
  split at hc
  ·rename_i k0 k x' h1 h2 hx;cases hc;exact ZF ho h1 h2 hx hR hE hs
  ·rename_i x' h1 h2 hx;cases hc;exact SC ho h1 h2 hx hR hE hs
  ·cases hc;exact(Bh hs).elim
 ·rename_i f first cap ho
  split at hc
  ·rename_i hf
   split at hc
   ·rename_i c' kO;cases hc;exact M6 ho hf kO hR hE hs
   ·cases hc
  ·cases hc
 ·rename_i s x f ho
  split at hc
  ·rename_i fs x' hu hx
   split at hc
   ·rename_i fl hf
    split at hc
    ·rename_i i hi
     split at hc
     ·rename_i fX;cases hc;exact Xd ho hu hf hi fX hx hR hE hs
     ·cases hc
    ·cases hc
   ·cases hc
  ·cases hc
 ·rename_i s x f ho
  split at hc
  ·rename_i fs x' hu hx
   split at hc
   ·rename_i fl hf
    split at hc
    ·rename_i n hn;cases hc;exact SA ho hu hf hn hx hR hE hs
    ·cases hc
   ·cases hc
  ·cases hc
 ·rename_i t x i ho
  split at hc
  ·rename_i e x' i' hu hx hi
   split at hc
   ·rename_i fi wJ
    split at hc
    ·rename_i fX;cases hc;exact Xc ho hu wJ fX hx hi hR hE hs
    ·cases hc
   ·cases hc
  ·rename_i len e x' i' hu hx hi
   split at hc
   ·rename_i fi wJ
    split at hc
    ·rename_i fX;cases hc;exact M8 ho hu wJ hx hi hR hE hs
    ·cases hc
   ·cases hc
  ·cases hc
 ·rename_i t x i ho
  split at hc
  ·rename_i len e x' i' hu hx hi
   split at hc
   ·rename_i fi n wJ hn;cases hc;exact RZ ho hu wJ hn hx hi hR hE hs
   ·cases hc
  ·rename_i x' i' hu hx hi;cases hc;exact M7 ho hu hx hi hR hE hs
  ·cases hc
 ·rename_i t x lo hi ho
  split at hc
  ·rename_i x' lo' kE hu hx dV Hg;cases hc;exact M4 ho hu hx dV Hg hR hE hs
  ·rename_i e x' lo' kE hu hx dV Hg
   split at hc
   ·rename_i fi wJ
    split at hc
    ·rename_i fX;cases hc;exact EE ho hu wJ fX hx dV Hg hR hE hs
    ·cases hc
   ·cases hc
  ·cases hc
 ·rename_i t x lo hi mx ho
  split at hc
  ·rename_i e x' lo' kE mx' hu hx dV Hg hmx
   split at hc
   ·rename_i fi wJ;cases hc;exact LH ho hu wJ hx dV Hg hmx hE hs
   ·cases hc
  ·cases hc
 ·rename_i t l m ho
  split at hc
  ·rename_i e hu
   split at hc
   ·rename_i sz b z l' m' he hl hm;cases hc;exact Xa ho hu he hl hm hR hE hs
   ·cases hc
  ·cases hc
 ·rename_i t ho
  cases hc;exact EF ho hR hE hs
 ·rename_i t m k ok ho
  split at hc
  ·rename_i key e hu
   split at hc
   ·rename_i sz b z m' k' q he hm hk hq;cases hc;exact LJ ho hu he hq hm hk hR hE hs
   ·cases hc
  ·cases hc
 ·rename_i t m k x ho
  split at hc
  ·rename_i key e hu
   split at hc
   ·rename_i m' k' x' q hm hk hx hq;cases hc;exact Fy (.inl ho) hu hq hm hk hx hR hE hs
   ·cases hc
  ·cases hc
 ·rename_i t m k x ho
  split at hc
  ·rename_i key e hu
   split at hc
   ·rename_i m' k' x' q hm hk hx hq;cases hc;exact Fy (.inr ho) hu hq hm hk hx hR hE hs
   ·cases hc
  ·cases hc
 ·rename_i x i ho
  simp only[Option.map_eq_some_iff]at hc
  obtain⟨x',hx,rfl⟩:=hc
  exact EG ho hx hR hE hs
 ·rename_i t x ho
  split at hc
  ·cases hc
  ·rename_i desc x' hni hu hx
   cases hc
   exact Xb ho hu (fun ms e=>hni ms (e ▸ rfl)) hx hR hE hs
  ·cases hc
 ·rename_i b args ats ho
  have conv1:∀{x:Operand} {t:TypeId},args.toList=[x]→ats.toList=[t]→o.op=.call {callee:=.builtin b,args:=#[x],argTypes:=#[t]}:=by
   intro x t h1 h2
   rw[ho]
   have e1:args=#[x]:=by apply Array.ext';simpa using h1
   have e2:ats=#[t]:=by apply Array.ext';simpa using h2
   rw[e1,e2]
  have conv2:∀{x y:Operand} {t u:TypeId},args.toList=[x,y]→ats.toList=[t,u]→o.op=.call {callee:=.builtin b,args:=#[x,y],argTypes:=#[t,u]}:=by
   intro x y t u h1 h2
   rw[ho]
   have e1:args=#[x,y]:=by apply Array.ext';simpa using h1
   have e2:ats=#[t,u]:=by apply Array.ext';simpa using h2
   rw[e1,e2]
  have conv3:∀{x y:Operand},args.toList=[x,y]→o.op=.call {callee:=.builtin b,args:=#[x,y],argTypes:=ats}:=by
   intro x y h1
   rw[ho]
   have e1:args=#[x,y]:=by apply Array.ext';simpa using h1
   rw[e1]
  split at hc
  ·rename_i x t ha ht
   split at hc
   ·rename_i x' hu hx;cases hc;exact LL (conv1 ha ht) hu rfl hx hR hE hs
   ·rename_i e x' hu hx;cases hc;exact LL (conv1 ha ht) hu rfl hx hR hE hs
   ·rename_i k e x' hu hx;cases hc;exact LL (conv1 ha ht) hu rfl hx hR hE hs
   ·rename_i n e x' hu hx;cases hc;exact LK (_x':=x') (conv1 ha ht) hu hR hE hs
   ·cases hc
  ·rename_i x t ha ht
   split at hc
   ·rename_i e x' hu hx;cases hc;exact AdF (conv1 ha ht) hu hx hR hE hs
   ·cases hc
  ·rename_i s x t u ha ht
   split at hc
   ·rename_i e hu
    split at hc
    ·rename_i sz b' z s' x' e' he Av hx hu'
     split at hc
     ·rename_i Pc;subst Pc;cases hc;exact LM (conv2 ha ht) hu hu' he Av hx hR hE hs
     ·cases hc
    ·rename_i sz b' z s' x' k he Av hx hu';cases hc;exact EH (conv2 ha ht) hu hu' he Av hx hR hE hs
    ·cases hc
   ·cases hc
  ·rename_i d s t u ha ht
   split at hc
   ·rename_i e e' hu hu'
    split at hc
    ·rename_i fi d' s' wJ hd Av
     split at hc
     ·cases hc;exact ZE (conv2 ha ht) hu wJ hd Av hR hE hs
     ·cases hc
    ·cases hc
   ·cases hc
  ·rename_i x t ha ht
   split at hc
   ·rename_i e hu
    split at hc
    ·rename_i sz b' z x' he hx;cases hc;exact SB (conv1 ha ht) hu he hx hR hE hs
    ·cases hc
   ·cases hc
  ·rename_i x y ha
   split at hc
   ·rename_i x' y' hx hy;cases hc;exact Wz (mx:=true) (by simpa using conv3 ha) hx hy hR hE hs
   ·cases hc
  ·rename_i x y ha
   split at hc
   ·rename_i x' y' hx hy;cases hc;exact Wz (mx:=false) (by simpa using conv3 ha) hx hy hR hE hs
   ·cases hc
  ·cases hc;exact(Bh hs).elim
 ·rename_i f args ats ho
  split at hc
  ·cases hc;exact absurd rfl (hnc _ _)
  ·cases hc
 ·cases hc;exact(Bh hs).elim
theorem L7{d:DOp}(hc:mP P o=some d)(hnc:∀f as,d≠.call f as)(hR:Rel h c)(hE:eI c env a)(hs:aK h env d=some (r,h')):jC P h c o a h' r:=by
 have:=VO hc hnc hR hE hs
 unfold W9 at this
 split at this
 ·exact this
 ·exact this.toSteps1 hR
theorem O6{d:DOp}(hc:mP P o=some d)(ht:nA d=false)(hR:Rel h c)(hE:eI c env a)(hs:aK h env d=some (r,h')):bP P h c o a h' r:=by
 have:=VO hc (fun f as e=>by subst e;simp[nA]at ht) hR hE hs
 unfold W9 at this
 rw[ht]at this
 exact this
end
end Go.Dm
namespace Go.Dm
def Ub(ops:List Oper):Option (Nat×Bool)→Option (Option (Nat×Bool))
 | none=>some none
 | some (j,want)=>match ops[j]? with
  | some g=>match g.dst with
   | some t=>some (some (t,want))
   | none=>none
  | none=>none
def sF(P:Program)(ops:List Oper)(kind:uZ)(snap:Nat)(o:Oper):Option aZ :=
 match mP P o,Ub ops o.guard with
 | some d,some g=>some {dst:=o.dst,op:=d,guard:=g,kind,snap,calm:=false}
 | _,_=>none
def bits(ops:List Oper):List Nat :=
 ops.foldl (fun eU o=>eU++[o.after.toList.foldl (fun s e=>if Region.binds .any e then s ||| 2 ^ e.on ||| eU.getD e.on 0 else s) 0]) []
inductive Cls where
 | env|read|alloc|heap
 deriving DecidableEq,Inhabited
def DOp.cls:DOp→Cls
 | .len 2 _|.load ..|.sliceSl ..|.cap ..|.lookup ..=>.read
 | .alloc ..|.buildSlice ..=>.alloc
 | d=>if nA d then .heap else .env
def GG(cs:List Cls)(bs:List Nat):List Nat :=
 let r:=(List.range cs.length).foldl (fun(st:List Nat×List Nat) j =>
  match cs.getD j .env with
  | .env|.alloc=>(st.1,st.2++[j])
  | _=>(st.1++st.2.filter (fun i=>(bs.getD j 0).testBit i)++[j],st.2.filter fun i=>!(bs.getD j 0).testBit i)) ([],[])
 r.1++r.2
def Opd.tmps:Opd→List Nat
 | .t n=>[n]
 | .c _=>[]
def Sy:Option Opd→List Nat
 | none=>[]
 | some x=>x.tmps
def DOp.tmps:DOp→List Nat
 | .alloc ..|.makeMap=>[]
 | .move x|.box _ _ x|.load _ x|.nilCheck x|.un _ x|.conv _ x|.asStr x|.fieldAddr _ x|.field _ _ x|.len _ x|.cap x|.clear _ _ x|.extract x _|.makeIface _ x=>x.tmps
 | .pick c a b=>c.tmps++a.tmps++b.tmps
 | .build _ parts=>parts.flatMap fun p=>p.2.2.tmps
 | .buildSlice _ _ _ _ parts=>parts.flatMap fun p=>p.2.tmps
 | .store _ x y|.arith _ x y|.eqb _ x y|.eqa _ _ x y|.eqn _ _ x y|.indexAddr _ x y|.indexArr _ _ x y|.index _ _ _ x y|.indexStr x y
 | .append _ _ _ x y|.appendZ _ _ _ _ x y|.copy _ x y|.makeSlice _ _ _ _ x y|.minmax _ x y|.lookup _ _ _ x y|.delete _ x y=>x.tmps++y.tmps
 | .mapUpdate _ x y z=>x.tmps++y.tmps++z.tmps
 | .sliceStr x lo hi|.sliceSl _ x lo hi=>x.tmps++Sy lo++Sy hi
 | .slice3 x lo hi mx=>x.tmps++lo.tmps++hi.tmps++mx.tmps
 | .makeFunc _ l=>l.flatMap Opd.tmps
 | .call f as=>f.tmps++as.flatMap Opd.tmps
def aZ.reads(o:aZ):List Nat:=o.op.tmps++(match o.guard with|some (t,_)=>[t]|none=>[])
def BV(x y:aZ):Bool :=
 (match x.dst with|some d=>y.reads.contains d || y.dst == some d|none=>false) ||
 (match y.dst with|some d=>x.reads.contains d|none=>false)
def Zn(x y:aZ):Bool :=
 !BV x y &&
 match x.op.cls,y.op.cls with
 | .env,_|_,.env=>true
 | _,.alloc=>true
 | .alloc,.read=>true
 | .alloc,.heap=>false
 | .heap,.heap=>false
 | .read,.read=>true
 | .heap,.read=>true
 | .read,.heap=>true
def qD(d:aZ):Bool :=
 match d.op.cls,d.kind with
 | .env,.read|.read,.read|.alloc,.create|.heap,.create|.heap,.write=>true
 | _,_=>false
def xE(b:Bool)(rp:Nat)(x y:aZ):Bool :=
 (b || Zn x y) && (x.dst.isNone || x.dst != y.dst) &&
 (!(y.op.cls == .read && x.kind != .read) || (if rp<y.snap then b else x.op.cls == .alloc || (!b && x.kind == .create && decide (y.snap≤x.snap)))) &&
 (!(x.op.cls == .read && y.op.cls == .heap) || b || (y.kind == .create && decide (x.snap≤y.snap))) &&
 (!(x.calm && y.op.cls == .heap) || b)
def pC(bs:List Nat)(j i:Nat):Bool:=(bs.getD j 0).testBit i
def Eu(ds:List (Nat×aZ))(p:Nat):Nat:=((ds.take p).filter fun x=>x.2.kind != .read).length
def PB(ops:List Oper)(ds:List (Nat×aZ))(bs:List Nat):Bool :=
 ops.zipIdx.all (fun x=>x.1.after.toList.all fun e=>!Region.binds .any e || (pC bs x.2 e.on && decide (e.on<x.2))) &&
 ops.zipIdx.all (fun x=>(List.range ops.length).all fun i=>!pC bs x.2 i || x.1.after.toList.any fun e=>Region.binds .any e && (e.on == i || pC bs e.on i)) &&
 (List.range ops.length).all (fun i=>ds.any fun x=>x.1 == i) &&
 ds.all (fun x=>qD x.2) &&
 ds.zipIdx.all (fun y=>(ds.take y.2).zipIdx.all fun x=>x.1.1 != y.1.1 && !pC bs x.1.1 y.1.1 && xE (pC bs y.1.1 x.1.1) (Eu ds x.2) x.1.2 y.1.2)
def LC(cs:List Cls)(ord:List Nat)(b:Nat):Nat :=
 ((ord.filter fun i=>cs.getD i .env == .heap || cs.getD i .env == .alloc).takeWhile fun i=>b.testBit i).length
def R4(cs:List Cls)(bs:List Nat)(j:Nat):uZ :=
 match cs.getD j .env with
 | .env|.read=>.read
 | .alloc=>.create
 | .heap=>if(List.range cs.length).all fun i=>cs.getD i .env != .read || (bs.getD j 0).testBit i || (bs.getD i 0).testBit j then .write else .create
def AfA(cs:List Cls)(ord:List Nat)(bs:List Nat)(j:Nat):Nat :=
 (List.range cs.length).foldl (fun s i=>if cs.getD i .env == .read && !(bs.getD j 0).testBit i && !(bs.getD i 0).testBit j then max s (LC cs ord (bs.getD i 0))else s) 0
def z6(dops:List DOp)(cs:List Cls)(bs:List Nat)(i:Nat):Bool :=
 cs.getD i .env == .read &&
 ((List.range cs.length).any fun j=>(match dops[j]? with|some (.store ..)=>true|_=>false) && R4 cs bs j == .create) &&
 (List.range cs.length).all fun j=>cs.getD j .env != .heap || (bs.getD j 0).testBit i || (bs.getD i 0).testBit j
def sE(P:Program)(ops:List Oper)(draw:Bool):Option aN :=
 if draw then
  match ops.mapM (mP P)with
  | none=>none
  | some dops =>
   let bs:=bits ops
   let cs:=dops.map DOp.cls
   let ord:=GG cs bs
   match ord.mapM (fun i=>match ops[i]? with
    | some o=>(sF P ops (R4 cs bs i) (if R4 cs bs i=uZ.create then AfA cs ord bs i else LC cs ord (bs.getD i 0)) o).map fun(d:aZ)=>(i,({d with calm:=z6 dops cs bs i}:aZ))
    | none=>none)with
   | some ds=>if PB ops ds bs then some (.draw (ds.map (·.2)))else none
   | none=>none
 else match ops.mapM (sF P ops .write 0)with
  | some ds=>some (.region ds)
  | none=>none
def jK(P:Program):Code→Option aN
 | .skip=>some .skip
 | .seq a b=>match jK P a,jK P b with|some a,some b=>some (.seq a b)|_,_=>none
 | .cond c a b=>match opd c,jK P a,jK P b with|some c,some a,some b=>some (.cond c a b)|_,_,_=>none
 | .block id b=>match jK P b with|some b=>some (.block id b)|none=>none
 | .loop b=>match jK P b with|some b=>some (.loop b)|none=>none
 | .exit id=>some (.exit id)
 | .ret=>some .ret
 | .region _ ops draw=>sE P ops.toList draw
 | _=>none
def Dt(P:Program):ResultVar→Option Ob
 | .tmp t=>some (.t t)
 | .cell a t=>match nOf P t with|some n=>some (.cell a n)|none=>none
def aE(P:Program)(fn:Func)(mode:WO):Option aQ :=
 match fn.body with
 | some body=>match jK P body,fn.results.toList.mapM (Dt P)with
  | some b, some rs => if fn.name ≠ "runtime.NumGoroutine" then some { ntmps := fn.ntmps, results := rs, body := b, mode } else none
  | _,_=>none
 | none=>none
end Go.Dm
namespace Go.Dm
def mZ(ts:List Nat)(env cL:Env):Prop:=∀t,t∈ts→(env[t]?).getD .unk=(cL[t]?).getD .unk
theorem mZ.app{ts us:List Nat}{env cL:Env}(h:mZ (ts++us) env cL):mZ ts env cL∧mZ us env cL :=
 ⟨fun t ht=>h t (List.mem_append_left _ ht),fun t ht=>h t (List.mem_append_right _ ht)⟩
theorem mZ.opd{x:Opd}{env cL:Env}(h:mZ x.tmps env cL):x.eval env=x.eval cL:=by
 cases x with
 | t n=>exact h n (by simp[Opd.tmps])
 | c v=>rfl
theorem mZ.flat{α:Type}{l:List α}{f:α→List Nat}{env cL:Env}(h:mZ (l.flatMap f) env cL):∀x,x∈l→mZ (f x) env cL :=
 fun x hx t ht=>h t (List.mem_flatMap.2 ⟨x,hx,ht⟩)
theorem mZ.bound{x:Option Opd}{env cL:Env}(h:mZ (Sy x) env cL)(d l:Nat):bound env x d l=bound cL x d l:=by
 cases x with
 | none=>rfl
 | some x=>simp only[Dm.bound,mZ.opd (x:=x) h]
theorem Ce{d:DOp}{h:aA}{env cL:Env}(hd:mZ d.tmps env cL):aK h env d=aK h cL d:=by
 cases d<;>simp only[DOp.tmps]at hd
 case makeMap=>rfl
 case alloc=>rfl
 case call=>rfl
 case pick c a b =>
  obtain⟨hd,h3⟩:=hd.app
  obtain⟨h1,h2⟩:=hd.app
  simp only[aK,h1.opd,h2.opd,h3.opd]
 case mapUpdate q m k x =>
  obtain⟨hd,h3⟩:=hd.app
  obtain⟨h1,h2⟩:=hd.app
  simp only[aK,h1.opd,h2.opd,h3.opd]
 case build z parts =>
  have:parts.map (fun p=>(p.1,p.2.1,p.2.2.eval env))=parts.map (fun p=>(p.1,p.2.1,p.2.2.eval cL)) :=
   List.map_congr_left fun p hp=>by rw[(hd.flat p hp).opd]
  simp only[aK,this]
 case buildSlice e s z n parts =>
  have:parts.map (fun p=>(p.1,p.2.eval env))=parts.map (fun p=>(p.1,p.2.eval cL)) :=
   List.map_congr_left fun p hp=>by rw[(hd.flat p hp).opd]
  simp only[aK,this]
 case makeFunc f l =>
  have:l.map (Opd.eval env)=l.map (Opd.eval cL):=List.map_congr_left fun p hp=>(hd.flat p hp).opd
  simp only[aK,this]
 case sliceStr x lo hi =>
  obtain⟨hd,h3⟩:=hd.app
  obtain⟨h1,h2⟩:=hd.app
  simp only[aK,h1.opd,h2.bound,h3.bound]
 case slice3 x lo hi mx =>
  obtain⟨hd,h4⟩:=hd.app
  obtain⟨hd,h3⟩:=hd.app
  obtain⟨h1,h2⟩:=hd.app
  have e:∀(y:Opd) d l,mZ y.tmps env cL→bound env (some y) d l=bound cL (some y) d l:=fun y d l hy=>by simp only[Dm.bound,hy.opd]
  simp only[aK,h1.opd,e lo _ _ h2,e hi _ _ h3,e mx _ _ h4]
 case sliceSl sz x lo hi =>
  obtain⟨hd,h3⟩:=hd.app
  obtain⟨h1,h2⟩:=hd.app
  simp only[aK,h1.opd,h2.bound,h3.bound]
 all_goals first
  | simp only[aK,hd.opd]
  | (obtain⟨h1,h2⟩:=hd.app;simp only[aK,h1.opd,h2.opd])
theorem xH{d:DOp}{call:Nat→List DV→aA→Option (DV×aA)}{h:aA}{env cL:Env}(hd:mZ d.tmps env cL):cG call d env h=cG call d cL h:=by
 cases d
 case call f as =>
  simp only[DOp.tmps]at hd
  obtain⟨h1,h2⟩:=hd.app
  have:as.map (Opd.eval env)=as.map (Opd.eval cL):=List.map_congr_left fun p hp=>(h2.flat p hp).opd
  simp only[cG,h1.opd,this]
 all_goals exact Ce hd
theorem Qa{d:DOp}{env cL:Env}(hd:mZ d.tmps env cL):cK env d=cK cL d:=by
 cases d<;>simp only[DOp.tmps]at hd<;>try rfl
 case load n a=>simp only[cK,hd.opd]
 case cap x=>simp only[cK,hd.opd]
 case len k x=>simp only[cK,hd.opd]
 case sliceSl sz x lo hi =>
  obtain⟨hd,h3⟩:=hd.app
  obtain⟨h1,h2⟩:=hd.app
  simp only[cK,h1.opd]
 case lookup q z ok m k =>
  obtain⟨h1,h2⟩:=hd.app
  simp only[cK,h1.opd]
theorem Q6{d:DOp}{env cL:Env}(hd:mZ d.tmps env cL):mark env d=mark cL d:=by
 have ht:=Qa hd
 cases d<;>simp only[mark,ht]
 case load n a=>simp only[DOp.tmps]at hd;simp only[hd.opd]
theorem Yn{d:DOp}{env:Env}{r:Nat×mG}(h:mark env d=some r):cK env d=some r.1:=by
 cases d<;>simp only[mark,Option.map_eq_some_iff]at h
 case load n a =>
  simp only[cK]
  split at h
  ·rename_i he;cases h;first|rfl|rw[he]
  ·cases h
 all_goals (obtain⟨id,h1,h2⟩:=h;subst h2;exact h1)
theorem P1{L:dF}{o:DOp}{call:Nat→List DV→aA→Option (DV×aA)}{h:aA}{env:Env}{id:Nat}(hp:oC L env o=some id):cG call o env h=aK h env o:=by
 cases o<;>first|(simp only[oC]at hp;cases hp;done)|rfl
def Ha(env:Env):DOp→Option (Nat×Nat×List DV)
 | .alloc ety sz z=>some (ety,sz,[z])
 | .buildSlice ety sz z len parts=>(eB sz (List.replicate len z) (parts.map fun p=>(p.1,p.2.eval env))).map fun xs=>(ety,sz,xs)
 | _=>none
def AR(id:Nat):DOp→DV
 | .alloc _ sz _=>.ptr id sz 0 0
 | .buildSlice _ sz _ len _=>.sl id sz 0 len
 | _=>.unk
theorem Q7{d:DOp}{env cL:Env}(hd:mZ d.tmps env cL):Ha env d=Ha cL d:=by
 cases d<;>simp only[DOp.tmps]at hd<;>try rfl
 case buildSlice e s z n parts =>
  have:parts.map (fun p=>(p.1,p.2.eval env))=parts.map (fun p=>(p.1,p.2.eval cL)) :=
   List.map_congr_left fun p hp=>by rw[(hd.flat p hp).opd]
  simp only[Ha,this]
theorem uS{sz:Nat}:∀(ps:List (Nat×DV)) {xs ys:List DV},eB sz xs ps=some ys→ys.length=xs.length:=by
 intro ps
 induction ps with
 | nil=>intro xs ys h;simp only[eB]at h;cases h;rfl
 | cons p ps ih =>
  intro xs ys h
  obtain⟨i,v⟩:=p
  simp only[eB]at h
  split at h
  ·rw[ih h,List.length_set]
  ·cases h
theorem Mi{d:DOp}(ha:d.cls=.alloc):(∃ ety sz z,d=.alloc ety sz z)∨∃ ety sz z len parts,d=.buildSlice ety sz z len parts:=by
 unfold DOp.cls at ha
 split at ha
 all_goals first|(cases ha;done)|exact .inl ⟨_,_,_,rfl⟩|exact .inr ⟨_,_,_,_,_,rfl⟩|skip
 split at ha<;>cases ha
theorem Ft{d:DOp}(ha:d.cls=.alloc){h h':aA}{env:Env}{v:DV}(hs:aK h env d=some (v,h')) :
  ∃ ety sz xs,Ha env d=some (ety,sz,xs)∧v=AR h.n d∧h'=h.push (.arr ety sz xs (some xs.length)):=by
 rcases Mi ha with⟨ety,sz,z,rfl⟩|⟨ety,sz,z,len,parts,rfl⟩
 ·simp only[aK,Option.some.injEq,Prod.mk.injEq]at hs
  obtain⟨rfl,rfl⟩:=hs
  exact⟨_,_,_,rfl,rfl,rfl⟩
 ·simp only[aK]at hs
  split at hs
  ·rename_i xs QG
   simp only[Option.some.injEq,Prod.mk.injEq]at hs
   obtain⟨rfl,rfl⟩:=hs
   refine⟨ety,sz,xs,by simp only[Ha,QG,Option.map_some],rfl,?_⟩
   have:=uS _ QG
   rw[List.length_replicate]at this
   rw[this]
  ·cases hs
theorem Jd{d:DOp}{h h2:aA}{env:Env}{v:DV}{h':aA}(hd:d.cls=.env)(hs:aK h env d=some (v,h')):aK h2 env d=some (v,h2):=by
 cases d<;>simp only[DOp.cls,nA]at hd<;>try (cases hd)
 case len k x =>
  have hk:k≠2:=fun e=>by subst e;cases hd
  clear hd
  simp only[aK]at hs ⊢
  cases hx:x.eval env<;>rw[hx]at hs<;>simp only at hs ⊢<;>try (cases hs)
  case map id =>
   cases hg:h.get id with
   | none=>rw[hg]at hs;cases hs
   | some o=>rw[hg]at hs;cases o<;>simp only[hk,if_false]at hs<;>cases hs
  all_goals (split at hs;(rename_i e;cases hs;simp[e]);cases hs)
 case minmax mx x y =>
  simp only[aK]at hs ⊢
  split at hs
  ·rename_i h1 h2;cases hs;simp
  ·cases hs
 all_goals (simp only[aK]at hs ⊢;repeat' split at hs)<;>simp_all
def CB(h h2:aA):Prop:=∀id o,h.get id=some o→kG o=true→h2.get id=some o
def QD(d:DOp)(env:Env)(h h2:aA):Prop:=∀id o,cK env d=some id→h.get id=some o→kG o=true→h2.get id=some o
theorem CB.t{h h2:aA}(hg:CB h h2)(d:DOp)(env:Env):QD d env h h2:=fun id o _ h1 h2=>hg id o h1 h2
theorem Yq{h h2:aA}{n:Option Nat}{a v:DV}(hg:∀id sz idx off,a=.ptr id sz idx off→∀o,h.get id=some o→kG o=true→h2.get id=some o)(hs:lR h n a=some v):lR h2 n a=some v:=by
 unfold lR at hs ⊢
 split at hs
 ·split at hs
  ·rename_i hx
   rw[hg _ _ _ _ rfl _ hx rfl];exact hs
  ·cases hs
 ·exact hs
 ·cases hs
theorem zO{d:DOp}{h h2:aA}{env:Env}{v:DV}{h':aA}(hg:QD d env h h2)(hd:nA d=false)(hs:aK h env d=some (v,h')):aK h2 env d=some (v,h2):=by
 by_cases hc:d.cls=.env
 ·exact Jd hc hs
 cases d<;>simp only[nA]at hd<;>try (exact Bool.noConfusion hd)
 case load n a =>
  simp only[aK]at hs ⊢
  split at hs
  ·rename_i v' hl;cases hs;rw[Yq (fun id sz idx off he o h1 h2=>hg id o (by simp only[cK,he]) h1 h2) hl]
  ·cases hs
 case sliceSl sz x lo hi =>
  simp only[aK]at hs ⊢
  split at hs
  ·(repeat' split at hs)<;>simp_all
  ·(repeat' split at hs)<;>simp_all
  ·rename_i IU
   split at hs
   ·rename_i hx
    rw[hg _ _ (by simp only[cK,IU]) hx rfl]
    (repeat' split at hs)<;>first|cases hs|skip
    rename_i h1 _ _ h2 _ _ h3
    simp only[if_pos h1,h2,h3]
   ·cases hs
  ·cases hs
 case cap x =>
  simp only[aK]at hs ⊢
  split at hs
  ·cases hs;rfl
  ·rename_i IU
   split at hs
   ·rename_i hx;rw[hg _ _ (by simp only[cK,IU]) hx rfl]
    split at hs
    ·rename_i e;cases hs;simp[e]
    ·cases hs
   ·rename_i hx;rw[hg _ _ (by simp only[cK,IU]) hx rfl]
    split at hs
    ·rename_i e;cases hs;simp[e]
    ·cases hs
   ·cases hs
  ·cases hs
 case len k x =>
  simp only[aK]at hs ⊢
  cases hx:x.eval env<;>rw[hx]at hs<;>simp only at hs ⊢<;>try (cases hs)
  case map id =>
   cases VV:h.get id with
   | none=>rw[VV]at hs;cases hs
   | some o =>
    rw[VV]at hs
    cases o<;>simp only at hs<;>try (cases hs)
    rw[hg _ _ (by simp only[cK,hx]) VV rfl]
    split at hs
    ·rename_i e;cases hs;simp[e]
    ·cases hs
  all_goals (split at hs;(rename_i e;cases hs;simp[e]);cases hs)
 case lookup q z ok m k =>
  simp only[aK]at hs ⊢
  cases hm:m.eval env<;>rw[hm]at hs<;>simp only at hs ⊢<;>try (cases hs)
  ·(repeat' split at hs)<;>simp_all
  ·rename_i id
   cases hx:h.get id with
   | none=>rw[hx]at hs;cases hs
   | some o =>
    rw[hx]at hs
    cases o<;>simp only at hs<;>try (cases hs)
    rw[hg _ _ (by simp only[cK,hm]) hx rfl]
    (repeat' split at hs)<;>simp_all
 all_goals exact absurd rfl hc
def lX(r:Nat×mG)(g h:aA):Prop :=
 match r.2 with
 | none=>h.get r.1=g.get r.1
 | some (n,sz,i,o)=>lR h n (.ptr r.1 sz i o)=lR g n (.ptr r.1 sz i o)
theorem lX.of_get{r:Nat×mG}{g h:aA}(e:h.get r.1=g.get r.1):lX r g h:=by
 unfold lX
 split
 ·exact e
 ·simp only[lR,e]
theorem lX.trans{r:Nat×mG}{a b c:aA}(h1:lX r a b)(h2:lX r b c):lX r a c:=by
 unfold lX at h1 h2 ⊢
 split<;>simp_all
theorem Nb{d:DOp}{h h2:aA}{env:Env}{v:DV}{h':aA}(hg:∀r,mark env d=some r→(∃ o,h.get r.1=some o)→lX r h h2)(hd:nA d=false)(hs:aK h env d=some (v,h')):aK h2 env d=some (v,h2):=by
 by_cases hld:∃ n a,d=.load n a
 ·obtain⟨n,a,rfl⟩:=hld
  simp only[aK]at hs ⊢
  split at hs
  ·rename_i v' hl
   cases hs
   have:lR h2 n (a.eval env)=some v:=by
    cases hv:a.eval env<;>rw[hv]at hl<;>try (simp only[lR]at hl;cases hl;done)
    ·rename_i id sz i o
     have Tt:∃ ob,h.get id=some ob:=by
      unfold lR at hl
      simp only at hl
      split at hl
      ·exact⟨_,by assumption⟩
      ·cases hl
     have:=hg (id,some (n,sz,i,o)) (by simp only[mark,hv]) Tt
     unfold lX at this
     simp only at this
     rw[this];exact hl
    ·exact hl
   rw[this]
  ·cases hs
 ·refine zO (fun id ob htgt uN _=>?_) hd hs
  have hm:mark env d=some (id,none):=by
   cases d<;>simp only[mark,htgt,Option.map_some]
   exact absurd ⟨_,_,rfl⟩ hld
  have:=hg _ hm ⟨ob,uN⟩
  unfold lX at this
  simp only at this
  rw[this];exact uN
theorem Rz{d:DOp}{h h2:aA}{env:Env}{v:DV}{h':aA}(hg:CB h h2)(hd:nA d=false)(hs:aK h env d=some (v,h')):aK h2 env d=some (v,h2) :=
 zO (hg.t d env) hd hs
structure fU(h h':aA):Prop where
 lim:h'.lim=h.lim
 n:h.n≤h'.n
 get:∀id,id<h.lim→h'.get id=h.get id
theorem fU.refl(h:aA):fU h h:=⟨rfl,Nat.le_refl _,fun _ _=>rfl⟩
theorem fU.trans{a b c:aA}(h:fU a b)(g:fU b c):fU a c :=
 ⟨g.lim.trans h.lim,Nat.le_trans h.n g.n,fun id hi=>(g.get id (by rw[h.lim];exact hi)).trans (h.get id hi)⟩
theorem fU.push{h:aA}(hl:h.lim≤h.n)(o:DO):fU h (h.push o):=⟨rfl,Nat.le_succ _,fun id hi=>gT (by omega)⟩
theorem fU.set{h:aA}{id:Nat}{ob:DO}(hg:h.get id=some ob)(hl:h.lim≤id)(o:DO):fU h (h.set id o) :=
 ⟨rfl,Nat.le_refl _,fun k hk=>dJ (iD hg) (by omega)⟩
theorem vI{h h':aA}{n:Nat}{a x:DV}(hs:kJ h n a x=some h'):fU h h':=by
 unfold kJ at hs
 split at hs
 ·split at hs
  ·rename_i hx
   split at hs
   ·rename_i hc
    split at hs
    ·split at hs
     ·cases hs;exact .set hx hc.2.1 _
     ·cases hs
    ·cases hs
   ·cases hs
  ·cases hs
 ·cases hs
theorem Ac{h h':aA}(hl:h.lim≤h.n){ety sz bytes:Nat}{s v:DV}{ys:List DV}(hs:aY h ety sz bytes s ys=some (v,h')):fU h h':=by
 unfold aY at hs
 split at hs
 ·split at hs
  ·cases hs;exact .refl _
  ·split at hs
   ·cases hs;exact .push hl _
   ·cases hs
 ·split at hs
  ·cases hs;exact .refl _
  ·split at hs
   ·rename_i hx
    split at hs
    ·split at hs
     ·split at hs
      ·rename_i aM;cases hs;exact .set hx aM _
      ·cases hs
     ·split at hs
      ·cases hs;exact .push hl _
      ·split at hs
       ·rename_i aM;cases hs;exact(fU.set hx aM _).trans (.push (by exact hl) _)
       ·cases hs
    ·cases hs
   ·cases hs
 ·cases hs
theorem Gr{h h':aA}{sz:Nat}{d v:DV}{ys:List DV}(hs:xZ h sz d ys=some (v,h')):fU h h':=by
 unfold xZ at hs
 split at hs
 ·cases hs;exact .refl _
 ·split at hs
  ·rename_i hx
   split at hs
   ·rename_i hc;cases hs;exact .set hx hc.2.2.2 _
   ·cases hs
  ·cases hs
 ·cases hs
theorem Cd{d:DOp}{h h':aA}(hl:h.lim≤h.n){env:Env}{v:DV}(hs:aK h env d=some (v,h')):fU h h':=by
 by_cases ht:nA d=false
 ·have UD:CB h h:=fun _ _ hx _=>hx
  have:=Rz UD ht hs
  rw[hs]at this
  cases this
  exact .refl _
 cases d<;>simp only[nA,not_true_eq_false]at ht<;>simp only[aK]at hs
 case alloc=>cases hs;exact .push hl _
 case box=>split at hs<;>cases hs;exact .push hl _
 case buildSlice=>split at hs<;>cases hs;exact .push hl _
 case store =>
  split at hs
  ·rename_i h2 dK;cases hs;exact vI dK
  ·cases hs
 case append =>
  split at hs
  ·exact Ac hl hs
  ·cases hs
 case appendZ =>
  split at hs
  ·split at hs
   ·exact Ac hl hs
   ·cases hs
  ·cases hs
 case copy =>
  split at hs
  ·exact Gr hs
  ·cases hs
 case clear =>
  split at hs
  ·cases hs;exact .refl _
  ·cases hs;exact .refl _
  ·split at hs
   ·cases hs;exact .refl _
   ·split at hs
    ·rename_i hcp;cases hs;exact Gr hcp
    ·cases hs
  ·cases hs
 case makeSlice =>
  split at hs
  ·split at hs
   ·cases hs;exact .push hl _
   ·cases hs
  ·cases hs
 case makeMap=>cases hs;exact .push hl _
 case mapUpdate =>
  split at hs
  ·split at hs
   ·rename_i hx
    split at hs
    ·rename_i hc
     split at hs
     ·cases hs;exact .set hx hc.1 _
     ·cases hs;exact .set hx hc.1 _
     ·cases hs
    ·cases hs
   ·cases hs
  ·cases hs
 case delete =>
  split at hs
  ·split at hs
   ·rename_i hx
    split at hs
    ·rename_i hc
     split at hs
     ·cases hs;exact .set hx hc.1 _
     ·cases hs;exact .refl _
     ·cases hs
    ·cases hs
   ·cases hs
  ·cases hs
 case call=>cases hs
 all_goals exact absurd trivial ht
end Go.Dm
namespace Go.Dm
abbrev oV:=Nat→List DV→aA→Option (DV×aA)
def eZ(call:oV):Prop:=∀f args h v h',h.lim≤h.n→call f args h=some (v,h')→fU h h'
theorem fU.lim_le{h h':aA}(k:fU h h')(hl:h.lim≤h.n):h'.lim≤h'.n:=by rw[k.lim];exact Nat.le_trans hl k.n
theorem lP{call:oV}(hc:eZ call){d:DOp}{env:Env}{h h':aA}{v:DV}(hl:h.lim≤h.n)(hs:cG call d env h=some (v,h')):fU h h':=by
 unfold cG at hs
 split at hs
 ·split at hs
  ·exact hc _ _ _ _ _ hl hs
  ·cases hs
 ·exact Cd hl hs
theorem Sj{call:oV}(hc:eZ call):∀(ops:List aZ) (env cL:Env) (h h':aA),h.lim≤h.n→iY call ops env h=some (cL,h')→fU h h':=by
 intro ops
 induction ops with
 | nil=>intro env cL h h' _ hs;cases hs;exact .refl _
 | cons o r ih =>
  intro env cL h h' hl hs
  simp only[iY]at hs
  split at hs
  ·split at hs
   ·rename_i v h1 h2
    have k:=lP hc hl h2
    exact k.trans (ih _ _ _ _ (k.lim_le hl) hs)
   ·cases hs
  ·exact ih _ _ _ _ hl hs
  ·cases hs
theorem vX{call:oV}(hc:eZ call){l:Nat}{d:DOp}{env:Env}{h h':aA}{v:DV}(hl:h.lim≤h.n)(Ze:l≤h.n)(hs:oK call l d env h=some (v,h')) :
  fU h h'∧∀id,id<l→h'.get id=h.get id:=by
 unfold oK at hs
 split at hs
 ·rename_i v1 h1 h2
  cases hs
  have k:=lP hc (h:={h with lim:=max l h.lim}) (Nat.max_le.2 ⟨Ze,hl⟩) h2
  exact⟨⟨rfl,k.n,fun id hi=>k.get id (Nat.lt_of_lt_of_le hi (Nat.le_max_right _ _))⟩,fun id hi=>k.get id (Nat.lt_of_lt_of_le hi (Nat.le_max_left _ _))⟩
 ·cases hs
theorem Mf{call:oV}(hc:eZ call){l r:Nat}{L L':dF}{d:DOp}{env:Env}{h h':aA}{v:DV}(hl:h.lim≤h.n)(Ze:l≤h.n)(hs:dP call l r L d env h=some (v,h',L')):fU h h':=by
 unfold dP at hs
 split at hs
 ·split at hs
  ·rename_i h2;cases hs;exact Cd hl h2
  ·cases hs
 ·split at hs
  ·rename_i h2;cases hs;exact(vX hc hl Ze h2).1
  ·unfold uA at hs
   split at hs
   ·split at hs
    ·rename_i h2
     split at hs
     ·cases hs;exact lP hc hl h2
     ·cases hs
    ·cases hs
   ·cases hs
theorem M3{hs:List aA}{k:Nat}{h:aA}(he:kK hs k=some h):h∈hs:=by
 unfold kK at he
 split at he
 ·exact List.mem_of_getElem? he
 ·cases he
def BZ:List aA→Prop
 | []=>True
 | h::hs=>h.lim≤h.n∧(∀g,g∈hs→fU g h)∧BZ hs
theorem Ng{call:oV}(hc:eZ call):∀(ops:List aZ) (env cL:Env) (hs:List aA) (L:dF) (h':aA),BZ hs→eK call ops env hs L=some (cL,h')→∀g,g∈hs→fU g h':=by
 intro ops
 induction ops with
 | nil =>
  intro env cL hs L h' dK he g hg
  cases hs with
  | nil=>cases he
  | cons h hs =>
   cases he
   rcases List.mem_cons.1 hg with rfl|hg
   ·exact .refl _
   ·exact dK.2.1 g hg
 | cons o r ih =>
  intro env cL hs L h' dK he g hg
  cases hs with
  | nil=>cases he
  | cons h hs =>
   have next:∀h1,fU h h1→BZ (h1::h::hs):=fun h1 k=>⟨k.lim_le dK.1,fun g hg=>by
    rcases List.mem_cons.1 hg with rfl|hg
    ·exact k
    ·exact(dK.2.1 g hg).trans k,dK⟩
   have gG:∀g,g∈h::hs→g.n≤h.n:=fun g hg=>by
    rcases List.mem_cons.1 hg with rfl|hg
    ·exact Nat.le_refl _
    ·exact(dK.2.1 g hg).n
   simp only[eK]at he
   split at he
   ·cases he
   ·split at he
    ·split at he
     ·split at he
      ·split at he
       ·exact ih _ _ _ _ _ dK he g hg
       ·cases he
      ·cases he
     ·cases he
    ·split at he
     ·rename_i v h1 h2
      exact ih _ _ _ _ _ (next h1 (lP hc dK.1 h2)) he g (List.mem_cons_of_mem _ hg)
     ·cases he
    ·split at he
     ·rename_i h0 TT
      split at he
      ·rename_i v h1 L1 h2
       exact ih _ _ _ _ _ (next h1 (Mf hc dK.1 (gG h0 (M3 TT)) h2)) he g (List.mem_cons_of_mem _ hg)
      ·cases he
     ·cases he
   ·split at he
    ·exact ih _ _ _ _ _ dK he g hg
    ·exact ih _ _ _ _ _ (next h (.refl _)) he g (List.mem_cons_of_mem _ hg)
def D5(run:aN→Env→aA→Res):Prop:=∀c env h e cL h',h.lim≤h.n→run c env h=.ok e cL h'→fU h h'
def yZ(D:dA):Prop:=∀f hk,D.hook f=some hk→∀h args v h',h.lim≤h.n→hk h args=some (v,h')→fU h h'
theorem Dj{h h':aA}{d d':DV}(hf:iW h d=some (d',h')):fU h h':=by
 cases d with
 | sl id sz off len =>
  simp only[iW]at hf
  split at hf
  ·rename_i hg
   split at hf
   ·rename_i dT;cases hf;exact fU.set hg dT.2.1 _
   ·cases hf
  ·cases hf
 | _=>simp only[iW]at hf;cases hf;exact .refl _
theorem Km{f:aA→DV→Option (DV×aA)}(hk:∀{h h':aA} {d d':DV},f h d=some (d',h')→fU h h'):∀{ds ds':List DV} {h h':aA},vQ f h ds=some (ds',h')→fU h h':=by
 intro ds
 induction ds with
 | nil=>intro ds' h h' he;simp only[vQ]at he;cases he;exact .refl _
 | cons d r ih =>
  intro ds' h h' he
  simp only[vQ]at he
  split at he
  ·rename_i e1
   split at he
   ·rename_i e2;cases he;exact(hk e1).trans (ih e2)
   ·cases he
  ·cases he
theorem Le{h:aA}{d:DV}(hd:∀cs,d≠.agg cs):jH h d=iW h d:=by
 cases d<;>first|rfl|exact absurd rfl (hd _)
theorem Ny{h h':aA}{d d':DV}(hf:jH h d=some (d',h')):fU h h':=by
 cases d with
 | agg cs =>
  simp only[jH]at hf
  split at hf
  ·rename_i e1;cases hf;exact Km (fun e=>Dj e) e1
  ·cases hf
 | _=>rw[Le (by intro cs e;cases e)]at hf;exact Dj hf
theorem xV{run:aN→Env→aA→Res}{D:dA}(hh:yZ D)(hr:D5 run):eZ (enter run D):=by
 intro f args h v h' hl he
 unfold enter at he
 split at he
 ·rename_i hk qM;exact hh _ _ qM _ _ _ _ hl he
 ·split at he
  ·cases he
  ·rename_i df hdf
   have go:∀args (h h':aA) v,h.lim≤h.n→(match run df.body (args++List.replicate (df.ntmps-args.length) cH) h with
     | .ok (.exit _) _ _=>none
     | .ok _ env h'=>match aI h' env df.results with
      | some v=>some (v,h')
      | none=>none
     | .fail=>none)=some (v,h')→fU h h':=by
    intro args h h' v hl he
    split at he
    ·cases he
    ·rename_i h2
     split at he
     ·cases he;exact hr _ _ _ _ _ _ hl h2
     ·cases he
    ·cases he
   simp only at he
   split at he
   ·exact go _ _ _ _ hl he
   ·split at he
    ·rename_i v1 h1 h2
     cases he
     have k:=go _ {h with lim:=h.n} _ _ (Nat.le_refl _) h2
     exact⟨rfl,k.n,fun id hi=>k.get id (Nat.lt_of_lt_of_le hi hl)⟩
    ·cases he
   ·split at he
    ·split at he
     ·split at he
      ·split at he
       ·cases he;exact .refl _
       ·cases he
      ·cases he
     ·cases he
    ·cases he
   ·split at he
    ·split at he
     ·rename_i hgid
      split at he
      ·rename_i dT
       split at he
       ·split at he
        ·cases he
         exact(fU.set hgid dT.2 _).trans (.push (by exact hl) _)
        ·cases he
       ·cases he
      ·cases he
     ·exact go _ _ _ _ hl he
    ·exact go _ _ _ _ hl he
   ·split at he
    ·rename_i as h1 ea
     split at he
     ·split at he
      ·split at he
       ·split at he
        ·cases he;exact Km (fun e=>Ny e) ea
        ·cases he
       ·cases he
      ·cases he
     ·cases he
    ·cases he
theorem Lr{D:dA}(hh:yZ D):∀n,D5 (eO D n):=by
 intro n
 induction n with
 | zero=>intro c env h e cL h' _ he;cases he
 | succ n ih =>
  intro c env h e cL h' hl he
  cases c<;>simp only[eO]at he
  case skip=>cases he;exact .refl _
  case exit=>cases he;exact .refl _
  case ret=>cases he;exact .refl _
  case seq a b =>
   split at he
   ·rename_i e1 h1 h2
    have k:=ih _ _ _ _ _ _ hl h2
    exact k.trans (ih _ _ _ _ _ _ (k.lim_le hl) he)
   ·exact ih _ _ _ _ _ _ hl he
  case cond c a b =>
   split at he
   ·exact ih _ _ _ _ _ _ hl he
   ·exact ih _ _ _ _ _ _ hl he
   ·cases he
  case block id b =>
   split at he
   ·rename_i h2
    split at he
    ·cases he;exact ih _ _ _ _ _ _ hl h2
    ·cases he;exact ih _ _ _ _ _ _ hl h2
   ·exact ih _ _ _ _ _ _ hl he
  case loop b =>
   split at he
   ·rename_i e1 h1 h2
    have k:=ih _ _ _ _ _ _ hl h2
    exact k.trans (ih _ _ _ _ _ _ (k.lim_le hl) he)
   ·exact ih _ _ _ _ _ _ hl he
  case region ops =>
   split at he
   ·rename_i h2;cases he;exact Sj (xV hh ih) _ _ _ _ _ hl h2
   ·cases he
  case draw ops =>
   split at he
   ·rename_i h2;cases he;exact Ng (xV hh ih) _ _ _ [h] _ _ (show BZ [h]from⟨hl,(fun _ hg=>(by cases hg)),trivial⟩) h2 _ (List.mem_singleton.2 rfl)
   ·cases he
end Go.Dm
namespace Go.Dm
def yK(h:aA)(c:Ctx)(h':aA)(d:DV):Ending→World→Prop:=fun e w'=>∃ v,e=.returned v∧pS h c h' w' d v
def Mt(P:Program)(f:FuncId)(vals:Array Value)(h:aA)(c:Ctx)(h':aA)(d:DV):Prop :=
 (∃ v w',(callFunc f vals).run P c.w=.ok (.value v) w'∧pS h c h' w' d v) ∨
 (∃ f' vals' ,(callFunc f vals).run P c.w=.ok (.enter f' vals') c.w∧Calls P f' vals' c.w (yK h c h' d))
def pT(P:Program)(call:oV):Prop:=∀f args h d h' c vals,call f args h=some (d,h')→Rel h c→VRs c args vals→Mt P f vals.toArray h c h' d
def VM(P:Program)(o:Oper)(a:Act)(h:aA)(c:Ctx)(h':aA)(d:DV):Prop :=
 ∀K Q,(∀v w',pS h c h' w' d v→K (a.put o.dst v) w')→o.wp P a c.w K Q
theorem jC.opOk{P:Program}{o:Oper}{a:Act}{h h':aA}{c:Ctx}{d:DV}(hs:jC P h c o a h' d):VM P o a h c h' d:=by
 obtain⟨nx,v,w',hr,hn,hp⟩:=hs
 intro K Q hK
 unfold Oper.wp
 rw[hr]
 rcases hn with rfl|⟨rfl,rfl⟩
 ·exact hK v w' hp
 ·exact hK _ w' hp
theorem Mt.opOk{P:Program}{o:Oper}{a:Act}{h h':aA}{c:Ctx}{d:DV}{f:FuncId}{vals:Array Value}(hc:Mt P f vals h c h' d)
  (he:(execOp a.eval o).run P c.w=(callFunc f vals).run P c.w):VM P o a h c h' d:=by
 intro K Q hK
 unfold Oper.wp
 rw[he]
 rcases hc with⟨v,w',hr,hp⟩|⟨f',vals',hr,hcalls⟩
 ·rw[hr];exact hK v w' hp
 ·rw[hr]
  exact Calls.mono hcalls fun e w' hp=>by
   obtain⟨v,rfl,hp⟩:=hp
   exact hK v w' hp
section
variable {P:Program} {h h':aA} {c:Ctx} {env:Env} {a:Act} {o:Oper} {r:DV}
theorem FJ{as:List Operand}{ds:List Opd}(hm:as.mapM opd=some ds)(hE:eI c env a):VRs c (ds.map (Opd.eval env)) (as.map a.eval):=by
 have hl:=dL _ _ _ hm
 refine⟨by simp[hl],fun i h1 h2=>?_⟩
 simp only[List.length_map]at h1 h2
 simp only[List.getElem_map]
 exact cI (fY _ _ _ hm i h2 h1) hE
theorem VRs.app{ds es:List DV}{vs us:List Value}(h1:VRs c ds vs)(h2:VRs c es us):VRs c (ds++es) (vs++us):=by
 refine⟨by simp[h1.1,h2.1],fun i a1 a2=>?_⟩
 by_cases hi:i<ds.length
 ·have kE:i<vs.length:=by rw[←h1.1];exact hi
  rw[List.getElem_append_left hi,List.getElem_append_left kE]
  exact h1.2 i hi kE
 ·have kE:¬i<vs.length:=by rw[←h1.1];exact hi
  rw[List.getElem_append_right (Nat.le_of_not_lt hi),List.getElem_append_right (Nat.le_of_not_lt kE)]
  have:i-ds.length=i-vs.length:=by rw[h1.1]
  have b1:i-ds.length<es.length:=by simp only[List.length_append]at a1;omega
  have b2:i-vs.length<us.length:=by simp only[List.length_append]at a2;omega
  have:=h2.2 (i-ds.length) b1 (by rw[h1.1];exact b2)
  simpa only[h1.1]using this
theorem GY{f:Operand}{args:Array Operand}{ats:Array TypeId}{g:FuncId}{cap:List Value}(ho:o.op=.call {callee:=.value f,args:=args,argTypes:=ats})
  (hf:a.eval f=.func (.func g) #[] cap.toArray) :
  (execOp a.eval o).run P c.w=(callFunc g (args.toList.map a.eval++cap).toArray).run P c.w:=by
 have e:(args.toList.map a.eval++cap).toArray=args.map a.eval++cap.toArray:=by apply Array.ext';simp
 rw[e]
 simp[execOp,ho,Go.resolve,Deferred.ofValue,hf,invoke]
theorem B1{f':Opd}{as':List Opd}(hc:mP P o=some (.call f' as')) :
  ∃ f args ats,o.op=.call {callee:=.value f,args:=args,argTypes:=ats}∧opd f=some f'∧args.toList.mapM opd=some as':=by
 unfold mP at hc
 split at hc
 case h_29 f args ats ho =>
  split at hc
  ·rename_i g as h1 h2;cases hc;exact⟨f,args,ats,ho,h1,h2⟩
  ·cases hc
 all_goals ((repeat' split at hc)<;>first|(cases hc;done)|(simp at hc;done))
theorem uB{call:oV}(nQ:pT P call){d:DOp}(hc:mP P o=some d)(hR:Rel h c)(hE:eI c env a)(hs:cG call d env h=some (r,h')):VM P o a h c h' r:=by
 by_cases hn:∀f as,d≠.call f as
 ·have Av:aK h env d=some (r,h'):=by
   unfold cG at hs
   split at hs
   ·exact absurd rfl (hn _ _)
   ·exact hs
  exact(L7 hc hn hR hE Av).opOk
 ·have:∃ f as,d=.call f as:=by
   cases d<;>first|exact⟨_,_,rfl⟩|exact absurd (fun _ _=>by simp) hn
  obtain⟨f',as',rfl⟩:=this
  obtain⟨f,args,ats,ho,hf,has⟩:=B1 hc
  simp only[cG]at hs
  split at hs
  ·rename_i g cap hg
   have vf:=cI hf hE
   rw[hg]at vf
   obtain⟨vs,e1,e2,e3⟩:=vf.func_inv
   exact(nQ g _ h r h' c _ hs hR ((FJ has hE).app ⟨e2,e3⟩)).opOk (GY ho e1)
  ·cases hs
end
end Go.Dm
namespace Go.Dm
def St(c:Ctx)(h':aA)(cL:Env)(a':Act)(w':World):Prop :=
 ∃ ρ',Rel h' (c.next w' ρ' h')∧cS c (c.next w' ρ' h')∧eI (c.next w' ρ' h') cL a'
theorem Ot(c:Ctx)(w1 w2:World)(ρ1 ρ2:Nat→Option (Nat×Nat))(h1 h2:aA):(c.next w1 ρ1 h1).next w2 ρ2 h2=c.next w2 ρ2 h2:=rfl
section
variable {P:Program} {h h':aA} {c:Ctx} {env:Env} {a:Act} {o:Oper} {r:DV}
theorem St.trans{h1:aA}{w1:World}{ρ1:Nat→Option (Nat×Nat)}(dI:cS c (c.next w1 ρ1 h1)){h2:aA}{env2:Env}{a2:Act}{w2:World}(hs:St (c.next w1 ρ1 h1) h2 env2 a2 w2):St c h2 env2 a2 w2:=by
 obtain⟨ρ2,k1,k2,k3⟩:=hs
 exact⟨ρ2,k1,dI.trans k2,k3⟩
theorem eI.mono{c c':Ctx}(hE:eI c env a)(dI:cS c c'):eI c' env a:=⟨hE.size,hE.defers,fun i hi=>(hE.val i hi).mono dI⟩
theorem eI.put(hE:eI c env a){v:Value}{d:DV}(hv:VR c d v)(dst:Option Nat):eI c (Dm.put env dst d) (a.put dst v):=by
 cases dst with
 | none=>exact hE
 | some t =>
  refine⟨by simp[Dm.put,Act.put,hE.size],hE.defers,fun i hi=>?_⟩
  simp only[Dm.put,List.length_set]at hi
  have kE:i<a.tmps.size:=by rw[hE.size];exact hi
  have:=hE.val i hi
  simp only[Array.getD_eq_getD_getElem?]at this
  simp only[Dm.put,Act.put,List.getElem_set,Array.getD_eq_getD_getElem?,Array.getElem?_setIfInBounds]
  by_cases e:t=i
  ·subst e;simpa[kE]using hv
  ·simpa[e]using this
theorem eI.get(hE:eI c env a)(t:Nat):VR c ((env[t]?).getD .unk) (a.tmps.getD t undef):=by
 by_cases ht:t<env.length
 ·rw[List.getElem?_eq_getElem ht];exact hE.val t ht
 ·rw[List.getElem?_eq_none (Nat.le_of_not_lt ht)];exact .unk _
theorem qX{ops:List Oper}{g:Option (Nat×Bool)}(hg:Ub ops o.guard=some g)(hE:eI c env a){b:Bool}(hw:jV env g=some b) :
  Region.wanted o (yielded ops.toArray a.tmps)=b:=by
 unfold Ub at hg
 split at hg
 ·rename_i hn
  cases hg
  simp only[jV]at hw
  cases hw
  simp[Region.wanted,hn]
 ·rename_i j want hn
  split at hg
  ·rename_i og hog
   split at hg
   ·rename_i t ht
    cases hg
    simp only[jV]at hw
    split at hw
    ·rename_i b' hb
     cases hw
     obtain⟨bD,Lb⟩:=List.getElem?_eq_some_iff.1 hb
     have hv:=hE.val t bD
     rw[Lb]at hv
     have hv:=hv.bool_inv
     have rB:t<a.tmps.size:=by rw[hE.size];exact bD
     simp[rB]at hv
     simp[Region.wanted,hn,yielded,hog,ht,rB,hv]
    ·rename_i vs hb
     cases hw
     obtain⟨bD,Lb⟩:=List.getElem?_eq_some_iff.1 hb
     have hv:=hE.val t bD
     rw[Lb]at hv
     obtain⟨us,hv,_⟩:=hv.tup_inv
     have rB:t<a.tmps.size:=by rw[hE.size];exact bD
     simp[rB]at hv
     simp[Region.wanted,hn,yielded,hog,ht,rB,hv]
    ·cases hw
   ·cases hg
  ·cases hg
theorem VR.undef:VR c cH Go.undef:=.tup (ds:=[]) (vs:=[]) rfl (fun i h1 _=>absurd h1 (by simp))
theorem wC{ops:List Oper}{k:uZ}{s:Nat}{d:aZ}(hc:sF P ops k s o=some d) :
  mP P o=some d.op∧Ub ops o.guard=some d.guard∧d.dst=o.dst∧d.kind=k∧d.snap=s:=by
 unfold sF at hc
 split at hc
 ·rename_i x g h1 h2;cases hc;exact⟨h1,h2,rfl,rfl,rfl⟩
 ·cases hc
theorem FI{call:oV}(nQ:pT P call){ops:List Oper}{Q:Exit→Act→World→Prop}:∀(l:List Oper) (ds:List aZ) (h:aA) (c:Ctx) (env:Env) (a:Act) (cL:Env) (h':aA),
  l.mapM (sF P ops .write 0)=some ds→iY call ds env h=some (cL,h')→Rel h c→eI c env a→(∀a' w',St c h' cL a' w'→Q .normal a' w')→wpList P ops.toArray Q l a c.w:=by
 intro l
 induction l with
 | nil =>
  intro ds h c env a cL h' hm hr hR hE hQ
  simp only[List.mapM_nil,Option.pure_def,Option.some.injEq]at hm
  subst hm
  cases hr
  exact wpList_nil (hQ a c.w ⟨c.ρ,by rw[hR.same];exact⟨hR,.refl c,hE⟩⟩)
 | cons o l ih =>
  intro ds h c env a cL h' hm hr hR hE hQ
  simp only[List.mapM_cons,Option.pure_def,Option.bind_eq_bind,Option.bind_eq_some_iff]at hm
  obtain⟨d,hd,ds',Gg,hm⟩:=hm
  cases hm
  obtain⟨h1,h2,h3,_,_⟩:=wC hd
  refine wpList_step fun K hK=>?_
  simp only[iY]at hr
  split at hr
  ·rename_i hw
   rw[if_pos (qX h2 hE hw)]
   split at hr
   ·rename_i v Dh uM
    refine uB nQ h1 hR hE uM K Q fun u w' hp=>?_
    obtain⟨ρ',k1,k2,k3⟩:=hp
    refine hK _ _ (ih ds' Dh (c.next w' ρ' Dh) _ (a.put o.dst u) cL h' Gg hr k1 ?_ fun a' w'' dK=>hQ _ _ (dK.trans k2))
    rw[←h3]
    exact(hE.mono k2).put k3 _
   ·cases hr
  ·rename_i hw
   rw[if_neg (by rw[qX h2 hE hw];simp)]
   refine hK _ _ (ih ds' h c _ (a.put o.dst Go.undef) cL h' Gg hr hR ?_ hQ)
   rw[←h3]
   exact hE.put .undef _
  ·cases hr
def xD(a:Act):ResultVar→Sem Value
 | .tmp t=>pure (a.tmps.getD t Go.undef)
 | .cell x t=>do loadVar t (←asAddr (a.tmps.getD x Go.undef))
theorem Jv(fn:Func)(a:Act):results fn a.tmps=(fn.results.mapM (xD a) >>= fun vs=>pure (if h:vs.size=1 then vs[0]else .tuple vs)):=by
 unfold results
 congr 1
theorem EX{rv:ResultVar}{dr:Ob}(hc:Dt P rv=some dr)(hR:Rel h c)(hE:eI c env a){d:DV}(hs:lO h env dr=some d) :
  ∃ v,(xD a rv).run P c.w=.ok v c.w∧VR c d v:=by
 unfold Dt at hc
 split at hc
 ·rename_i t
  cases hc
  simp only[lO,Option.some.injEq]at hs
  subst hs
  exact⟨_,by simp only[xD,Sem.run_pure],hE.get t⟩
 ·rename_i x t
  split at hc
  ·rename_i n hn
   cases hc
   simp only[lO]at hs
   obtain⟨b,o,off,cs,e1,e2,e3⟩:=Ar hR (hE.get x) hs
   obtain⟨u,f1,f2⟩:=Jz (P:=P) e2 e3 hn
   exact⟨u,by simp only[xD,e1,Sem.run_bind,asAddr,Sem.run_pure,Result.andThen_ok];exact f1,f2⟩
  ·cases hc
theorem NH{α:Type}(f:α→Sem Value)(w:World):∀(l:List α) (vs:List Value),l.length=vs.length→(∀i (h1:i<l.length) (h2:i<vs.length),(f l[i]).run P w=.ok vs[i] w)→(l.mapM f).run P w=.ok vs w:=by
 intro l
 induction l with
 | nil=>intro vs hl _;cases vs with|nil=>simp|cons=>simp at hl
 | cons x l ih =>
  intro vs hl hv
  cases vs with
  | nil=>simp at hl
  | cons v vs =>
   have h0:=hv 0 (by simp) (by simp)
   simp only[List.getElem_cons_zero]at h0
   have:=ih vs (by simpa using hl) (fun i h1 h2=>by have:=hv (i+1) (by simpa using h1) (by simpa using h2);simpa only[List.getElem_cons_succ]using this)
   simp[List.mapM_cons,h0,this]
theorem Nj{fn:Func}{rs:List Ob}(hc:fn.results.toList.mapM (Dt P)=some rs)(hR:Rel h c)(hE:eI c env a){d:DV}(hs:aI h env rs=some d) :
  ∃ v,(results fn a.tmps).run P c.w=.ok v c.w∧VR c d v:=by
 have hl:=dL _ _ _ hc
 have main:∀ds:List DV,rs.mapM (lO h env)=some ds→∃ vs:List Value,ds.length=vs.length∧(∀i (h1:i<ds.length) (h2:i<vs.length),VR c ds[i] vs[i]) ∧
   (fn.results.mapM (xD a)).run P c.w=.ok vs.toArray c.w:=by
  intro ds Gg
  have S5:=dL _ _ _ Gg
  have each:∀i (hi:i<fn.results.toList.length),∃ v,(xD a fn.results.toList[i]).run P c.w=.ok v c.w∧VR c (ds[i]'(by omega)) v :=
   fun i hi=>EX (fY _ _ _ hc i hi (by omega)) hR hE (fY _ _ _ Gg i (by omega) (by omega))
  let vs:List Value:=(List.range fn.results.toList.length).map fun i=>if hi:i<fn.results.toList.length then Classical.choose (each i hi)else Go.undef
  have hvl:vs.length=fn.results.toList.length:=by simp[vs]
  have hvi:∀i (hi:i<fn.results.toList.length),vs[i]'(by omega)=Classical.choose (each i hi):=fun i hi=>by simp only[vs,List.getElem_map,List.getElem_range,dif_pos hi]
  refine⟨vs,by omega,fun i h1 h2=>?_,?_⟩
  ·rw[hvi i (by omega)]
   exact(Classical.choose_spec (each i (by omega))).2
  ·rw[Array.mapM_eq_mapM_toList]
   have:=NH (P:=P) (xD a) c.w fn.results.toList vs hvl.symm
    (fun i h1 h2=>by rw[hvi i h1];exact(Classical.choose_spec (each i h1)).1)
   simp only[Sem.run_map,this]
   rfl
 unfold aI at hs
 rw[Jv]
 split at hs
 ·rename_i rr
  obtain⟨vs,k1,k2,k3⟩:=main [d] (by simp[hs])
  have hv1:vs.length=1:=by rw[←k1];rfl
  refine⟨vs[0]'(by omega),?_,k2 0 (by simp) (by omega)⟩
  simp only[Sem.run_bind,k3,Result.andThen_ok]
  simp[hv1]
 ·rename_i eG
  split at hs
  ·rename_i ds Gg
   cases hs
   obtain⟨vs,k1,k2,k3⟩:=main ds Gg
   have S5:=dL _ _ _ Gg
   have hv1:vs.length≠1:=by
    intro e
    have:rs.length=1:=by omega
    obtain⟨x,hx⟩:=List.length_eq_one_iff.1 this
    exact eG x hx
   refine⟨.tuple vs.toArray,?_,.tup k1 k2⟩
   simp only[Sem.run_bind,k3,Result.andThen_ok]
   simp[hv1]
  ·cases hs
end
end Go.Dm
namespace Go.Dm
theorem pD{l r:List DV}{f:DV→DV→Bool}(hf:∀a b,f a b=true→a=b)(hl:l.length=r.length)(h:((l.zip r).all fun p=>f p.1 p.2)=true):l=r:=by
 induction l generalizing r with
 | nil=>cases r with|nil=>rfl|cons=>simp at hl
 | cons x l ih =>
  cases r with
  | nil=>simp at hl
  | cons y r =>
   simp only[List.zip_cons_cons,List.all_cons,Bool.and_eq_true]at h
   rw[hf x y h.1,ih (by simpa using hl) h.2]
theorem Se:∀n a b,same n a b=true→a=b:=by
 intro n
 induction n with
 | zero=>intro a b h;simp[same]at h
 | succ n ih =>
  intro a b h
  cases a<;>cases b<;>simp only[same,Bool.false_eq_true]at h<;>try rfl
  all_goals try simp only[Bool.and_eq_true,decide_eq_true_eq,beq_iff_eq]at h
  case bool=>rw[h]
  case int=>rw[h.1,h.2]
  case str=>rw[h]
  case ptr=>obtain⟨⟨⟨h1,h2⟩,h3⟩,h4⟩:=h;rw[Nat.eq_of_beq_eq_true h1,Nat.eq_of_beq_eq_true h2,Nat.eq_of_beq_eq_true h3,Nat.eq_of_beq_eq_true h4]
  case sl=>obtain⟨⟨⟨h1,h2⟩,h3⟩,h4⟩:=h;rw[Nat.eq_of_beq_eq_true h1,Nat.eq_of_beq_eq_true h2,Nat.eq_of_beq_eq_true h3,Nat.eq_of_beq_eq_true h4]
  case iptr=>obtain⟨⟨⟨h1,h2⟩,h3⟩,h4⟩:=h;rw[h1,Nat.eq_of_beq_eq_true h2,pD ih (Nat.eq_of_beq_eq_true h3) h4]
  case isl=>obtain⟨⟨⟨h1,h2⟩,h3⟩,h4⟩:=h;rw[h1,Nat.eq_of_beq_eq_true h2,pD ih (Nat.eq_of_beq_eq_true h3) h4]
  case map=>rw[Nat.eq_of_beq_eq_true h]
  case tok=>rw[Nat.eq_of_beq_eq_true h]
  case atl=>rw[Nat.eq_of_beq_eq_true h]
  case func=>obtain⟨⟨h1,h2⟩,h3⟩:=h;rw[Nat.eq_of_beq_eq_true h1,pD ih (Nat.eq_of_beq_eq_true h2) h3]
  case iface=>rw[Nat.eq_of_beq_eq_true h.1,ih _ _ h.2]
  case agg=>rw[pD ih (Nat.eq_of_beq_eq_true h.1) h.2]
  case tup=>rw[pD ih (Nat.eq_of_beq_eq_true h.1) h.2]
theorem Wx{l r:List DV}(h:rQ l r=true):l=r:=by
 simp only[rQ,Bool.and_eq_true]at h
 exact pD (Se 200) (Nat.eq_of_beq_eq_true h.1) h.2
theorem LF{a b:DO}(h:LG a b=true):a=b:=by
 cases a<;>cases b<;>simp only[LG,Bool.false_eq_true]at h<;>try rfl
 case arr e1 s1 x1 c1 e2 s2 x2 c2 =>
  simp only[Bool.and_eq_true]at h
  obtain⟨⟨⟨h1,h2⟩,h3⟩,h4⟩:=h
  have hc:c1=c2:=by
   cases c1<;>cases c2<;>simp only[Bool.false_eq_true]at h3<;>try rfl
   rw[Nat.eq_of_beq_eq_true h3]
  rw[Nat.eq_of_beq_eq_true h1,Nat.eq_of_beq_eq_true h2,hc,Wx h4]
 case mp x1 x2 =>
  simp only[Bool.and_eq_true]at h
  obtain⟨h1,h2⟩:=h
  have hl:=Nat.eq_of_beq_eq_true h1
  congr 1
  clear h1
  induction x1 generalizing x2 with
  | nil=>cases x2 with|nil=>rfl|cons=>simp at hl
  | cons x l ih =>
   cases x2 with
   | nil=>simp at hl
   | cons y r =>
    simp only[List.zip_cons_cons,List.all_cons,Bool.and_eq_true]at h2
    rw[ih r h2.2 (by simpa using hl)]
    congr 1
    exact Prod.ext (Se _ _ _ h2.1.1) (Se _ _ _ h2.1.2)
theorem A9:∀(n:Nat) (a b:List DO) (id:Nat),id<n→id ∉ B0 n a b→a[n-1-id]?=b[n-1-id]?:=by
 intro n
 induction n with
 | zero=>intro a b id fS _;omega
 | succ n ih =>
  intro a b id fS hn
  cases a with
  | nil=>cases b with
   | nil=>rfl
   | cons y s=>exact absurd (List.mem_range.2 fS) hn
  | cons x r=>cases b with
   | nil=>exact absurd (List.mem_range.2 fS) hn
   | cons y s =>
    simp only[B0]at hn
    by_cases he:id=n
    ·subst he
     have:id+1-1-id=0:=by omega
     rw[this]
     split at hn
     ·rename_i hs
      simp only[List.getElem?_cons_zero]
      rw[LF hs]
     ·exact absurd (List.mem_cons_self ..) hn
    ·have h1:n+1-1-id=(n-1-id)+1:=by omega
     rw[h1,List.getElem?_cons_succ,List.getElem?_cons_succ]
     refine ih r s id (by omega) fun hm=>hn ?_
     split
     ·exact hm
     ·exact List.mem_cons_of_mem _ hm
theorem zZ{h h':aA}{id:Nat}(fS:id<h.n)(hn:id ∉ Ic h h'):h'.get id=h.get id:=by
 unfold Ic at hn
 split at hn
 ·rename_i dI
  have:=A9 _ _ _ id fS hn
  have h2:id<h'.n:=Nat.lt_of_lt_of_le fS dI
  unfold aA.get
  rw[if_pos fS,if_pos h2,this,List.getElem?_drop]
  congr 1
  omega
 ·exact absurd (List.mem_range.2 fS) hn
end Go.Dm
namespace Go.Dm
structure Fit(P:Program)(ops:List Oper)(cV:List (Nat×aZ))(bs:List Nat):Prop where
 edge:∀j o e,ops[j]?=some o→e∈o.after.toList→Region.binds .any e=true→pC bs j e.on=true∧e.on<j
 clos:∀j o i,ops[j]?=some o→i<ops.length→pC bs j i=true→∃ e,e∈o.after.toList∧Region.binds .any e=true∧(e.on=i∨pC bs e.on i=true)
 all:∀i,i<ops.length→∃ (p:Nat) (x:Nat×aZ),cV[p]?=some x∧x.1=i
 comp:∀(p:Nat) (x:Nat×aZ),cV[p]?=some x→∃ o k s d,ops[x.1]?=some o∧sF P ops k s o=some d∧d.op=x.2.op∧d.guard=x.2.guard∧d.dst=x.2.dst
 kind:∀(p:Nat) (x:Nat×aZ),cV[p]?=some x→qD x.2=true
 pair:∀(p q:Nat) (x y:Nat×aZ),p<q→cV[p]?=some x→cV[q]?=some y→x.1≠y.1∧pC bs x.1 y.1=false∧xE (pC bs y.1 x.1) (Eu cV p) x.2 y.2=true
theorem vD{α:Type}{l:List α}{f:α×Nat→Bool}(h:l.zipIdx.all f=true){j:Nat}{x:α}(hx:l[j]?=some x):f (x,j)=true:=by
 have:=List.all_eq_true.1 h (x,j) (by rw[List.mem_zipIdx_iff_getElem?];simpa using hx)
 exact this
theorem yA{P:Program}{ops:List Oper}{dc:aN}(hc:sE P ops true=some dc):∃ (cV:List (Nat×aZ)) (bs:List Nat),dc=.draw (cV.map (·.2))∧Fit P ops cV bs:=by
 simp only[sE,if_true]at hc
 split at hc
 ·cases hc
 ·rename_i dops hd
  split at hc
  ·rename_i cV hdis
   split at hc
   ·rename_i hok
    cases hc
    refine⟨cV,bits ops,rfl,?_⟩
    simp only[PB,Bool.and_eq_true]at hok
    obtain⟨⟨⟨⟨k1,k2⟩,k3⟩,k4⟩,k5⟩:=hok
    refine⟨fun j o e ho he hb=>?_,fun j o i ho hi hb=>?_,fun i hi=>?_,fun p x hx=>?_,fun p x hx=>?_,fun p q x y uL hx hy=>?_⟩
    ·have:=List.all_eq_true.1 (vD k1 ho) e he
     simp only[hb,Bool.not_true,Bool.false_or,Bool.and_eq_true,decide_eq_true_eq]at this
     exact this
    ·have:=List.all_eq_true.1 (vD k2 ho) i (List.mem_range.2 hi)
     simp only[hb,Bool.not_true,Bool.false_or,List.any_eq_true,Bool.and_eq_true,Bool.or_eq_true,beq_iff_eq]at this
     obtain⟨e,h1,h2,h3⟩:=this
     exact⟨e,h1,h2,h3⟩
    ·have:=List.all_eq_true.1 k3 i (List.mem_range.2 hi)
     simp only[List.any_eq_true,beq_iff_eq]at this
     obtain⟨x,h1,h2⟩:=this
     obtain⟨p,hp⟩:=List.mem_iff_getElem?.1 h1
     exact⟨p,x,hp,h2⟩
    ·obtain⟨bD,uJ⟩:=List.getElem?_eq_some_iff.1 hx
     have hl:=dL _ _ _ hdis
     have:=fY _ _ _ hdis p (by omega) bD
     rw[uJ]at this
     split at this
     ·rename_i o ho
      simp only[Option.map_eq_some_iff]at this
      obtain⟨d,hd,he⟩:=this
      subst he
      exact⟨o,_,_,d,ho,hd,rfl,rfl,rfl⟩
     ·cases this
    ·exact List.all_eq_true.1 k4 x (List.mem_of_getElem? hx)
    ·have h1:=vD k5 hy
     have uJ:(cV.take q)[p]?=some x:=by rw[List.getElem?_take_of_lt uL];exact hx
     have h2:=vD h1 uJ
     simp only[Bool.and_eq_true,bne_iff_ne,ne_eq,Bool.not_eq_true']at h2
     exact⟨h2.1.1,h2.1.2,h2.2⟩
   ·cases hc
  ·cases hc
def QB(call:oV)(d:aZ)(env:Env)(hs:List aA)(L:dF)(b:Bool)(v:DV)(Av:List aA)(L':dF):Prop :=
 jV env d.guard=some b∧∃ g gs,hs=g::gs ∧
  (b=false→v=cH∧(Av=if d.kind=.read then hs else g::hs)∧L'=L) ∧
  (b=true→(d.kind=.read∧Av=hs∧(∃ h0 h1,kK hs d.snap=some h0∧aK h0 env d.op=some (v,h1))∧L.free d.snap (cK env d.op)=true∧L'=L.see d.calm (mark env d.op)) ∨
   (d.kind=.write∧L'=L∧∃ h1,cG call d.op env g=some (v,h1)∧Av=h1::hs) ∨
   (d.kind=.create∧L'=L∧∃ h0 h1,kK hs d.snap=some h0∧oK call h0.n d.op env g=some (v,h1)∧Av=h1::hs) ∨
   (d.kind=.create∧∃ (ids:List Nat) (h1:aA),cG call d.op env g=some (v,h1)∧(∀id,id<g.n→id ∉ ids→h1.get id=g.get id)∧(∀r,r∈L.rds→r.1<g.n→lX r g h1)∧Av=h1::hs∧L'={L with pks:=ids.map (fun id=>(gs.length,id))++L.pks}))
structure gR(call:oV)(ds:List aZ)(env:Env)(hs:List aA)(L0:dF)(E:Nat→Env)(HS:Nat→List aA)(LS:Nat→dF)(V:Nat→DV)(B:Nat→Bool):Prop where
 E0:E 0=env
 H0:HS 0=hs
 L0:LS 0=L0
 step:∀p d,ds[p]?=some d→QB call d (E p) (HS p) (LS p) (B p) (V p) (HS (p+1)) (LS (p+1))∧E (p+1)=put (E p) d.dst (V p)
theorem Ab{g h1:aA}{ety sz bytes id' s0 off len id:Nat}{ys:List DV}{v:DV}(hs:aY g ety sz bytes (.sl id' s0 off len) ys=some (v,h1))(fS:id<g.n)(eG:id'≠id):h1.get id=g.get id:=by
 unfold aY at hs
 simp only at hs
 split at hs
 ·cases hs;rfl
 ·split at hs
  ·rename_i hg
   split at hs
   ·split at hs
    ·split at hs
     ·cases hs;exact dJ (iD hg) (fun e=>eG e.symm)
     ·cases hs
    ·split at hs
     ·cases hs;exact gT fS
     ·split at hs
      ·cases hs
       rw[gT (by exact fS)]
       exact dJ (iD hg) (fun e=>eG e.symm)
      ·cases hs
   ·cases hs
  ·cases hs
theorem Jx{L:dF}{env:Env}{o:DOp}{id' id:Nat}{g h1:aA}{v:DV}(hp:oC L env o=some id')(hs:aK g env o=some (v,h1))(fS:id<g.n)(eG:id'≠id):h1.get id=g.get id:=by
 cases o<;>simp only[oC]at hp<;>try (cases hp;done)
 case store n a x =>
  split at hp
  ·rename_i i1 s1 x1 o1 IU
   split at hp
   ·cases hp
    simp only[aK,IU]at hs
    split at hs
    ·rename_i h2 dK
     cases hs
     unfold kJ at dK
     simp only at dK
     split at dK
     ·rename_i hgid
      split at dK
      ·split at dK
       ·split at dK
        ·cases dK;exact dJ (iD hgid) (fun e=>eG e.symm)
        ·cases dK
       ·cases dK
      ·cases dK
     ·cases dK
    ·cases hs
   ·cases hp
  ·cases hp
 case append e sz b a x =>
  split at hp
  ·rename_i IU
   split at hp
   ·cases hp
    simp only[aK,IU]at hs
    split at hs
    ·exact Ab hs fS eG
    ·cases hs
   ·cases hp
  ·cases hp
 case appendZ e sz b z a x =>
  split at hp
  ·rename_i IU
   split at hp
   ·cases hp
    simp only[aK,IU]at hs
    split at hs
    ·split at hs
     ·exact Ab hs fS eG
     ·cases hs
    ·cases hs
   ·cases hp
  ·cases hp
theorem Uc{h:aA}{id:Nat}{o o':DO}(hg:h.get id=some o):(h.set id o').get id=some o':=by
 have bD:=iD hg
 unfold aA.get at hg ⊢
 rw[if_pos bD]at hg
 show(if id<h.n then(h.objs.set (h.n-1-id) o')[h.n-1-id]? else none)=some o'
 rw[if_pos bD,List.getElem?_set_self (List.getElem?_eq_some_iff.1 hg).1]
theorem Zu{sz off n:Nat}{e x:DV}(hx:bE n x=true)(hl:(aP sz e).length=sz)(ho:off+n≤sz){j:Nat}(hj:j<off∨off+n≤j):(aP sz (turn sz off n e x))[j]?=(aP sz e)[j]?:=by
 have hxl:(aP n x).length=n:=by
  unfold bE at hx
  split at hx
  ·cases hx
  ·cases hx
  ·cases hx
  ·simpa[aP]using hx
  ·have:n=1:=by simpa using hx
   subst this
   cases x<;>simp_all[aP]
 unfold turn
 split
 ·rename_i h
  have:j ≥ sz:=by omega
  have hxl':(aP sz x).length=sz:=by rw[←h.2];exact hxl
  rw[List.getElem?_eq_none (by omega),List.getElem?_eq_none (by omega)]
 ·show((aP sz e).take off++aP n x++(aP sz e).drop (off+n))[j]?=_
  have ht:((aP sz e).take off).length=off:=by rw[List.length_take];omega
  rcases hj with hj|hj
  ·rw[List.append_assoc,List.getElem?_append_left (by omega),List.getElem?_take_of_lt hj]
  ·rw[List.getElem?_append_right (by rw[List.length_append];omega),List.getElem?_drop,List.length_append,ht,hxl]
   congr 1
   omega
theorem Hj{sz off n:Nat}{e x:DV}(hx:bE n x=true)(hl:(aP sz e).length=sz)(ho:off+n≤sz):(aP sz (turn sz off n e x)).length=sz:=by
 have hxl:(aP n x).length=n:=by
  unfold bE at hx
  split at hx
  ·cases hx
  ·cases hx
  ·cases hx
  ·simpa[aP]using hx
  ·have:n=1:=by simpa using hx
   subst this
   cases x<;>simp_all[aP]
 unfold turn
 split
 ·rename_i h;rw[←h.2];exact hxl
 ·show((aP sz e).take off++aP n x++(aP sz e).drop (off+n)).length=sz
  simp only[List.length_append,List.length_take,List.length_drop]
  omega
theorem P2{m:Option Nat}{xs ys:List DV}{o:Nat}(hl:xs.length=ys.length)(h:∀j,o≤j→j<o+Ih m→xs[j]?=ys[j]?):dM m xs o=dM m ys o:=by
 cases m with
 | none=>exact h o (Nat.le_refl _) (Nat.lt_succ_self _)
 | some k =>
  simp only[dM,hl]
  split
  ·congr 2
   refine List.ext_getElem? fun i=>?_
   simp only[List.getElem?_take,List.getElem?_drop]
   split
   ·exact h (o+i) (by omega) (by show o+i<o+k;omega)
   ·rfl
  ·rfl
theorem Wg{g h1:aA}{n id sz idx off:Nat}{x:DV}(hs:kJ g n (.ptr id sz idx off) x=some h1){p:mG}(ha:uX p n idx off=true):lX (id,p) g h1:=by
 unfold kJ at hs
 simp only at hs
 split at hs
 ·rename_i ety eQ xs cap hg
  split at hs
  ·rename_i hc
   obtain⟨rfl,_,dK,hoff⟩:=hc
   split at hs
   ·rename_i e he
    split at hs
    ·rename_i lC
     cases hs
     cases p with
     | none=>cases ha
     | some q =>
      obtain⟨m,eQ,i,o⟩:=q
      have Au:(g.set id (.arr ety sz (xs.set idx (turn sz off n e x)) cap)).get id=some (.arr ety sz (xs.set idx (turn sz off n e x)) cap):=Uc hg
      unfold lX
      simp only[lR,Au,hg]
      split
      ·rename_i fX
       subst fX
       simp only[uX,Bool.or_eq_true,Bool.not_eq_true',Nat.ble_eq]at ha
       by_cases hi:i=idx
       ·subst hi
        have bD:=(List.getElem?_eq_some_iff.1 he).1
        rw[List.getElem?_set_self bD,he]
        refine P2 (by rw[Hj dK lC hoff,lC]) fun j j1 j2=>Zu dK lC hoff ?_
        rcases ha with(ha|ha)|ha
        ·simp at ha
        ·omega
        ·omega
       ·rw[List.getElem?_set_ne (fun e=>hi e.symm)]
      ·rfl
    ·cases hs
   ·cases hs
  ·cases hs
 ·cases hs
theorem Xw{L:dF}{env:Env}{o:DOp}{id:Nat}{g h1:aA}{v:DV}(hp:oC L env o=some id)(hs:aK g env o=some (v,h1)):∀r,r∈L.rds→r.1<g.n→lX r g h1:=by
 intro r hr hn
 by_cases eG:id=r.1
 ·subst eG
  have un:∀i:Nat,(if(L.rds.all fun x=>!(Nat.beq x.1 i))=true then some i else none)=some r.1→False:=by
   intro i hi
   split at hi
   ·rename_i lD
    cases hi
    have:=List.all_eq_true.1 lD r hr
    simp at this
   ·cases hi
  unfold oC at hp
  split at hp
  ·rename_i n a x
   split at hp
   ·rename_i i1 sz idx off IU
    split at hp
    ·rename_i lD
     cases hp
     have ha:=List.all_eq_true.1 lD r hr
     simp only[Nat.beq_refl,Bool.not_true,Bool.false_or]at ha
     simp only[aK,IU]at hs
     split at hs
     ·rename_i h2 dK
      cases hs
      exact Wg dK ha
     ·cases hs
    ·cases hp
   ·cases hp
  ·split at hp
   ·exact(un _ hp).elim
   ·cases hp
  ·split at hp
   ·exact(un _ hp).elim
   ·cases hp
  ·cases hp
 ·exact .of_get (Jx hp hs hn eG)
theorem Pw{call:oV}:∀(ds:List aZ) (env cL:Env) (hs:List aA) (L:dF) (h':aA),eK call ds env hs L=some (cL,h') →
  ∃ E HS LS V B,gR call ds env hs L E HS LS V B∧E ds.length=cL∧∃ gs,HS ds.length=h'::gs:=by
 intro ds
 induction ds with
 | nil =>
  intro env cL hs L h' hr
  cases hs with
  | nil=>cases hr
  | cons h hs =>
   cases hr
   exact⟨fun _=>env,fun _=>h'::hs,fun _=>L,fun _=>.unk,fun _=>false,⟨rfl,rfl,rfl,fun p d hd=>by simp at hd⟩,rfl,hs,rfl⟩
 | cons o r ih =>
  intro env cL hs L h' hr
  have key:∀b v hs1 L1,QB call o env hs L b v hs1 L1→eK call r (put env o.dst v) hs1 L1=some (cL,h') →
    ∃ E HS LS V B,gR call (o::r) env hs L E HS LS V B∧E (o::r).length=cL∧∃ gs,HS (o::r).length=h'::gs:=by
   intro b v hs1 L1 dK S1
   obtain⟨E,HS,LS,V,B,ht,h1,h2⟩:=ih _ _ _ _ _ S1
   refine⟨fun p=>match p with|0=>env|p+1=>E p,fun p=>match p with|0=>hs|p+1=>HS p,fun p=>match p with|0=>L|p+1=>LS p,fun p=>match p with|0=>v|p+1=>V p,fun p=>match p with|0=>b|p+1=>B p,⟨rfl,rfl,rfl,?_⟩,h1,h2⟩
   intro p d hd
   cases p with
   | zero =>
    simp only[List.getElem?_cons_zero,Option.some.injEq]at hd
    subst hd
    exact⟨by simpa only[ht.H0,ht.L0]using dK,by simp only[ht.E0]⟩
   | succ p=>exact ht.step p d (by simpa using hd)
  cases hs with
  | nil=>simp[eK]at hr
  | cons h hs =>
   simp only[eK]at hr
   split at hr
   ·cases hr
   ·rename_i hw
    split at hr
    ·rename_i hk
     split at hr
     ·rename_i hfree
      split at hr
      ·rename_i h0 TT
       split at hr
       ·rename_i v h1 dK
        exact key true v _ _ ⟨hw,h,hs,rfl,fun e=>(by cases e),fun _=>.inl ⟨hk,rfl,⟨h0,h1,TT,dK⟩,hfree,rfl⟩⟩ hr
       ·cases hr
      ·cases hr
     ·cases hr
    ·rename_i hk
     split at hr
     ·rename_i v h1 dK
      exact key true v _ _ ⟨hw,h,hs,rfl,fun e=>(by cases e),fun _=>.inr (.inl ⟨hk,rfl,h1,dK,rfl⟩)⟩ hr
     ·cases hr
    ·rename_i hk
     split at hr
     ·rename_i h0 TT
      split at hr
      ·rename_i v h1 L1 dK
       refine key true v _ _ ⟨hw,h,hs,rfl,fun e=>(by cases e),fun _=>.inr (.inr ?_)⟩ hr
       unfold dP at dK
       split at dK
       ·rename_i id fS
        split at dK
        ·rename_i h3
         cases dK
         refine .inr ⟨hk,[id],h1,by rw[P1 fS];exact h3,fun i hi eG=>Jx fS h3 hi (fun e=>eG (by rw[e];exact List.mem_singleton.2 rfl)),Xw fS h3,rfl,rfl⟩
        ·cases dK
       ·split at dK
        ·rename_i h3;cases dK;exact .inl ⟨hk,rfl,h0,h1,TT,h3,rfl⟩
        ·unfold uA at dK
         split at dK
         ·split at dK
          ·rename_i h3
           split at dK
           ·rename_i lD
            cases dK
            exact .inr ⟨hk,_,h1,h3,fun i hi eG=>zZ hi eG,fun r hr hn=>.of_get (zZ hn fun hm=>by
             have:=List.all_eq_true.1 (List.all_eq_true.1 lD.2 _ hm) r hr
             simp at this),rfl,rfl⟩
           ·cases dK
          ·cases dK
         ·cases dK
      ·cases hr
     ·cases hr
   ·rename_i hw
    exact key false cH _ _ ⟨hw,h,hs,rfl,fun _=>⟨rfl,rfl,rfl⟩,fun e=>(by cases e)⟩ hr
def bG(hs:List aA):aA:=hs.headD default
section
variable {call:oV} {ds:List aZ} {env:Env} {h:aA} {E:Nat→Env} {HS:Nat→List aA} {LS:Nat→dF} {V:Nat→DV} {B:Nat→Bool}
def kC(ds:List aZ)(p:Nat):Nat:=((ds.take p).filter fun x=>x.kind != .read).length
theorem vL{p:Nat}{d:aZ}(hd:ds[p]?=some d):kC ds (p+1)=kC ds p+(if d.kind=.read then 0 else 1):=by
 obtain⟨bD,he⟩:=List.getElem?_eq_some_iff.1 hd
 unfold kC
 rw[List.take_succ_eq_append_getElem bD,List.filter_append,List.length_append,he]
 cases hk:d.kind<;>simp[hk]
theorem pH{p q:Nat}(uL:p≤q):kC ds p≤kC ds q:=by
 unfold kC
 have:(ds.take p).filter (fun x=>x.kind != .read) <+: (ds.take q).filter (fun x=>x.kind != .read):=(List.take_prefix_take_left uL).filter _
 exact this.length_le
theorem gR.shape(T:gR call ds env [h] .start E HS LS V B):∀p,p≤ds.length→HS p≠[]∧(HS p).length=kC ds p+1:=by
 intro p
 induction p with
 | zero=>intro _;rw[T.H0];simp[kC]
 | succ p ih =>
  intro hp
  obtain⟨d,hd⟩:∃ d,ds[p]?=some d:=⟨ds[p]'(by omega),List.getElem?_eq_getElem (by omega)⟩
  obtain⟨i1,i2⟩:=ih (by omega)
  obtain⟨⟨hw,g,gs,hg,hf,ht⟩,_⟩:=T.step p d hd
  rw[vL hd]
  cases hb:B p with
  | false =>
   obtain⟨_,e,_⟩:=hf hb
   rw[e]
   split
   ·exact⟨i1,by omega⟩
   ·exact⟨by simp,by simp[i2]⟩
  | true =>
   rcases ht hb with⟨hk,e,_⟩|⟨hk,_,h1,_,e⟩|⟨hk,_,h0,h1,_,_,e⟩|⟨hk,id,h1,_,_,_,e,_⟩<;>rw[e,hk]
   ·exact⟨i1,by simp[i2]⟩
   ·exact⟨by simp,by simp[i2]⟩
   ·exact⟨by simp,by simp[i2]⟩
   ·exact⟨by simp,by simp[i2]⟩
theorem gR.heap(T:gR call ds env [h] .start E HS LS V B){p:Nat}{d:aZ}(hd:ds[p]?=some d) :
  (d.kind=.read∧HS (p+1)=HS p)∨(d.kind≠.read∧HS (p+1)=bG (HS (p+1))::HS p):=by
 obtain⟨⟨hw,g,gs,hg,hf,ht⟩,_⟩:=T.step p d hd
 cases hb:B p with
 | false =>
  obtain⟨_,e,_⟩:=hf hb
  split at e
  ·rename_i hk;exact .inl ⟨hk,e⟩
  ·rename_i hk;exact .inr ⟨hk,by rw[e];simp[bG]⟩
 | true =>
  rcases ht hb with⟨hk,e,_⟩|⟨hk,_,h1,_,e⟩|⟨hk,_,h0,h1,_,_,e⟩|⟨hk,id,h1,_,_,_,e,_⟩
  ·exact .inl ⟨hk,e⟩
  ·exact .inr ⟨by rw[hk];simp,by rw[e];simp[bG]⟩
  ·exact .inr ⟨by rw[hk];simp,by rw[e];simp[bG]⟩
  ·exact .inr ⟨by rw[hk];simp,by rw[e];simp[bG]⟩
theorem gR.snap(T:gR call ds env [h] .start E HS LS V B):∀p,p≤ds.length→∀s h0,kK (HS p) s=some h0→∃ m,m≤p∧h0=bG (HS m)∧kC ds m=s:=by
 intro p
 induction p with
 | zero =>
  intro _ s h0 hs
  rw[T.H0]at hs
  unfold kK at hs
  split at hs
  ·rename_i bD
   simp only[List.length_singleton,Nat.lt_one_iff]at bD
   subst bD
   simp at hs
   exact⟨0,Nat.le_refl _,by rw[T.H0];exact hs.symm,rfl⟩
  ·cases hs
 | succ p ih =>
  intro hp s h0 hs
  obtain⟨d,hd⟩:∃ d,ds[p]?=some d:=⟨ds[p]'(by omega),List.getElem?_eq_getElem (by omega)⟩
  have hl:=(T.shape p (by omega)).2
  rcases T.heap hd with⟨hk,e⟩|⟨hk,e⟩
  ·rw[e]at hs
   obtain⟨m,h1,h2,h3⟩:=ih (by omega) s h0 hs
   exact⟨m,by omega,h2,h3⟩
  ·rw[e]at hs
   unfold kK at hs
   split at hs
   ·rename_i bD
    simp only[List.length_cons]at bD hs
    by_cases Av:s=(HS p).length
    ·subst Av
     simp only[Nat.add_sub_cancel,Nat.sub_self,List.getElem?_cons_zero,Option.some.injEq]at hs
     exact⟨p+1,Nat.le_refl _,hs.symm,by rw[vL hd,if_neg hk,hl]⟩
    ·have:(HS p).length+1-1-s=((HS p).length-1-s)+1:=by omega
     rw[this,List.getElem?_cons_succ]at hs
     obtain⟨m,h1,h2,h3⟩:=ih (by omega) s h0 (by unfold kK;rw[if_pos (by omega)];exact hs)
     exact⟨m,by omega,h2,h3⟩
   ·cases hs
theorem gR.keeps1(T:gR call ds env [h] .start E HS LS V B)(hc:eZ call)(hl:h.lim≤h.n):∀p,p≤ds.length→(bG (HS p)).lim≤(bG (HS p)).n∧∀m,m≤p→fU (bG (HS m)) (bG (HS p)):=by
 intro p
 induction p with
 | zero =>
  intro _
  refine⟨by rw[T.H0];exact hl,fun m hm=>?_⟩
  have:m=0:=by omega
  subst this
  exact .refl _
 | succ p ih =>
  intro hp
  obtain⟨d,hd⟩:∃ d,ds[p]?=some d:=⟨ds[p]'(by omega),List.getElem?_eq_getElem (by omega)⟩
  obtain⟨i1,i2⟩:=ih (by omega)
  have one:fU (bG (HS p)) (bG (HS (p+1))):=by
   obtain⟨⟨hw,g,gs,hg,hf,ht⟩,_⟩:=T.step p d hd
   have Tz:bG (HS p)=g:=by rw[hg];rfl
   cases hb:B p with
   | false =>
    obtain⟨_,e,_⟩:=hf hb
    rw[e]
    split
    ·exact .refl _
    ·rw[Tz];exact .refl _
   | true =>
    rcases ht hb with⟨hk,e,_⟩|⟨hk,_,h1,h2,e⟩|⟨hk,_,h0,h1,h2,h3,e⟩|⟨hk,id,h1,h3,_,_,e,_⟩
    rotate_right
    ·rw[e,Tz];exact lP hc (by rw[←Tz];exact i1) h3
    ·rw[e];exact .refl _
    ·rw[e,Tz];exact lP hc (by rw[←Tz];exact i1) h2
    ·obtain⟨m,a1,a2,_⟩:=T.snap p (by omega) _ _ h2
     rw[e,Tz]
     exact(vX hc (by rw[←Tz];exact i1) (by rw[a2,←Tz];exact(i2 m a1).n) h3).1
  refine⟨one.lim_le i1,fun m hm=>?_⟩
  by_cases e:m=p+1
  ·subst e;exact .refl _
  ·exact(i2 m (by omega)).trans one
theorem gR.keeps(T:gR call ds env [h] .start E HS LS V B)(hc:eZ call)(hl:h.lim≤h.n){m p:Nat}(hm:m≤p)(hp:p≤ds.length):fU (bG (HS m)) (bG (HS p)):=(T.keeps1 hc hl p hp).2 m hm
theorem gR.alloc(T:gR call ds env [h] .start E HS LS V B){p:Nat}{d:aZ}(hd:ds[p]?=some d)(ha:d.op.cls=.alloc)(hk:d.kind=.create)(hb:B p=true) :
  ∃ ety sz xs,Ha (E p) d.op=some (ety,sz,xs)∧V p=AR (bG (HS p)).n d.op∧bG (HS (p+1))=(bG (HS p)).push (.arr ety sz xs (some xs.length)):=by
 obtain⟨⟨hw,g,gs,hg,hf,ht⟩,_⟩:=T.step p d hd
 have Tz:bG (HS p)=g:=by rw[hg];rfl
 have wR:∀(c:oV) (h:aA),cG c d.op (E p) h=aK h (E p) d.op:=fun c h=>by
  rcases Mi ha with⟨ety,sz,z,e⟩|⟨ety,sz,z,len,parts,e⟩<;>rw[e]<;>rfl
 rcases ht hb with⟨qM,_⟩|⟨qM,_⟩|⟨_,_,h0,h1,h2,h3,e⟩|⟨_,id,h1,h2,_,_,e,_⟩
 ·rw[hk]at qM;cases qM
 ·rw[hk]at qM;cases qM
 ·unfold oK at h3
  rw[wR]at h3
  split at h3
  ·rename_i v h' h4
   simp only[Option.some.injEq,Prod.mk.injEq]at h3
   obtain⟨ety,sz,xs,m1,m2,m3⟩:=Ft ha h4
   rw[e,Tz]
   refine⟨ety,sz,xs,m1,by rw[←h3.1,m2],?_⟩
   show h1=_
   rw[←h3.2,m3]
   rfl
  ·cases h3
 ·rw[wR]at h2
  obtain⟨ety,sz,xs,m1,m2,m3⟩:=Ft ha h2
  rw[e,Tz]
  exact⟨ety,sz,xs,m1,m2,m3⟩
theorem gR.grows(T : gR call ds env [h] .start E HS LS V B)(hc : eZ call)(hl : h.lim ≤ h.n){m s : Nat}(hs : kC ds m = s) : ∀ k, m ≤ k → k ≤ ds.length →
    (∀ (p : Nat) (d : aZ), m ≤ p → p < k → ds[p]? = some d → d.kind ≠ .read → d.op.cls = .alloc ∨ (d.kind = .create ∧ s ≤ d.snap)) →
    (∀ (p : Nat) (d : aZ), ds[p]? = some d → d.op.cls = .alloc → d.kind = .create) →
    ∀ r : Nat × mG, r.1 < (bG (HS m)).n → (∀ (p : Nat) (d : aZ), m ≤ p → p < k → ds[p]? = some d → d.kind = .create → d.op.cls ≠ .alloc → r ∈ (LS p).rds ∨ ((HS p).length - 1, r.1) ∉ (LS (p + 1)).pks) →
    lX r (bG (HS m)) (bG (HS k)) := by
  intro k
  induction k with
  | zero => intro hm _ _ _ id _ _; have : m = 0 := by omega
            subst this; exact .of_get rfl
  | succ k ih =>
    intro hm hk hw Bc rr fS hnp
    by_cases e : m = k + 1
    · subst e; exact .of_get rfl
    obtain⟨d, hd⟩ : ∃ d, ds[k]? = some d := ⟨ds[k]'(by omega), List.getElem?_eq_getElem (by omega)⟩
    have i0 := ih (by omega) (by omega) (fun p d a1 a2 => hw p d a1 (by omega)) Bc rr fS (fun p d a1 a2 => hnp p d a1 (by omega))
    refine i0.trans ?_
    have hn : rr.1 < (bG (HS k)).n := Nat.lt_of_lt_of_le fS (T.keeps hc hl (by omega : m ≤ k) (by omega)).n
    obtain⟨⟨hwd, g, gs, hg, hf, ht⟩, _⟩ := T.step k d hd
    have Tz : bG (HS k) = g := by rw[hg]; rfl
    cases hb : B k with
    | false =>
      obtain⟨_, e, _⟩ := hf hb
      rw[e]
      split
      · exact .of_get rfl
      · rw[Tz]; exact .of_get rfl
    | true =>
      by_cases Fe : d.kind = .read
      · rcases ht hb with⟨_, e, _⟩ | ⟨qM, _⟩ | ⟨qM, _⟩ | ⟨qM, _⟩
        · rw[e]; exact .of_get rfl
        · rw[Fe]at qM; cases qM
        · rw[Fe]at qM; cases qM
        · rw[Fe]at qM; cases qM
      · have hwk := hw k d (by omega) (by omega) hd Fe
        have hsplit : d.op.cls = .alloc ∨ (d.op.cls ≠ .alloc ∧ d.kind = .create ∧ s ≤ d.snap) := by
          by_cases ha : d.op.cls = .alloc
          · exact .inl ha
          · exact .inr ⟨ha, hwk.resolve_left ha⟩
        rcases hsplit with ha | ⟨l6, hcr, hsn⟩
        · have hcr := Bc k d hd ha
          obtain⟨ety, sz, xs, _, _, e⟩ := T.alloc hd ha hcr hb
          rw[e]
          exact .of_get (gT hn)
        · rcases ht hb with⟨qM, _⟩ | ⟨qM, _⟩ | ⟨_, _, h0, h1, h2, h3, e⟩ | ⟨_, ids, h1, _, h3, h4, e, eL⟩
          rotate_right
          · rw[e, Tz]
            rcases hnp k d (by omega) (by omega) hd hcr l6 with hm | hm
            · exact h4 rr hm (by rw[← Tz]; exact hn)
            · refine .of_get (h3 rr.1 (by rw[← Tz]; exact hn) fun e' => hm ?_)
              rw[eL, hg]
              exact List.mem_append_left _ (List.mem_map.2 ⟨rr.1, e', rfl⟩)
          · rw[hcr]at qM; cases qM
          · rw[hcr]at qM; cases qM
          · obtain⟨m', a1, a2, a3⟩ := T.snap k (by omega) _ _ h2
            rw[e, Tz]
            have sL := T.keeps1 hc hl k (by omega)
            have Eb : (bG (HS m)).n ≤ h0.n := by
              rw[a2]
              by_cases dI : m ≤ m'
              · exact(T.keeps hc hl dI (by omega)).n
              · have h4 : kC ds m' ≤ kC ds m := pH (by omega)
                have h5 : kC ds m' = kC ds m := by omega
                have same : ∀ q, m' ≤ q → q ≤ m → HS q = HS m' := by
                  intro q
                  induction q with
                  | zero => intro hq _; have : m' = 0 := by omega
                            subst this; rfl
                  | succ q iq =>
                    intro Ht yW
                    by_cases eq : m' = q + 1
                    · subst eq; rfl
                    obtain⟨dq, hdq⟩ : ∃ d, ds[q]? = some d := ⟨ds[q]'(by omega), List.getElem?_eq_getElem (by omega)⟩
                    have r1 : kC ds m' ≤ kC ds q := pH (by omega)
                    have r2 : kC ds (q + 1) ≤ kC ds m := pH (by omega)
                    rw[vL hdq]at r2
                    rcases T.heap hdq with⟨_, e⟩ | ⟨eG, _⟩
                    · rw[e]; exact iq (by omega) (by omega)
                    · rw[if_neg eG]at r2; omega
                rw[same m (by omega) (Nat.le_refl _)]
                exact Nat.le_refl _
            exact .of_get ((vX hc (by rw[← Tz]; exact sL.1) (by rw[a2, ← Tz]; exact(sL.2 m' a1).n) h3).2 rr.1 (Nat.lt_of_lt_of_le fS Eb))
theorem gR.logs(T : gR call ds env [h] .start E HS LS V B){m : Nat} : ∀ p, m ≤ p → p ≤ ds.length → (∀ x, x ∈ (LS m).rds → x ∈ (LS p).rds) ∧ (∀ x, x ∈ (LS m).pks → x ∈ (LS p).pks) := by
  intro p
  induction p with
  | zero => intro hm _; have : m = 0 := by omega
            subst this; exact⟨fun _ h => h, fun _ h => h⟩
  | succ p ih =>
    intro hm hp
    by_cases e : m = p + 1
    · subst e; exact⟨fun _ h => h, fun _ h => h⟩
    obtain⟨i1, i2⟩ := ih (by omega) (by omega)
    obtain⟨d, hd⟩ : ∃ d, ds[p]? = some d := ⟨ds[p]'(by omega), List.getElem?_eq_getElem (by omega)⟩
    obtain⟨⟨hw, g, gs, hg, hf, ht⟩, _⟩ := T.step p d hd
    cases hb : B p with
    | false =>
      obtain⟨_, _, e⟩ := hf hb
      rw[e]; exact⟨i1, i2⟩
    | true =>
      rcases ht hb with⟨_, _, _, _, e⟩ | ⟨_, e, _⟩ | ⟨_, e, _⟩ | ⟨_, ids, h1, _, _, _, _, e⟩
      · rw[e]
        unfold dF.see
        split
        · exact⟨i1, i2⟩
        · unfold dF.read
          split
          · exact⟨fun x hx => List.mem_cons_of_mem _ (i1 x hx), i2⟩
          · exact⟨i1, i2⟩
      · rw[e]; exact⟨i1, i2⟩
      · rw[e]; exact⟨i1, i2⟩
      · rw[e]; exact⟨i1, fun x hx => List.mem_append_right _ (i2 x hx)⟩
theorem O7(env:Env)(d:Option Nat)(v:DV):(put env d v).length=env.length:=by cases d<;>simp[put]
theorem gR.len(T:gR call ds env [h] .start E HS LS V B):∀p,p≤ds.length→(E p).length=env.length:=by
 intro p
 induction p with
 | zero=>intro _;rw[T.E0]
 | succ p ih =>
  intro hp
  obtain⟨d,hd⟩:∃ d,ds[p]?=some d:=⟨ds[p]'(by omega),List.getElem?_eq_getElem (by omega)⟩
  rw[(T.step p d hd).2,O7,ih (by omega)]
theorem gR.old(T:gR call ds env [h] .start E HS LS V B){t:Nat}:∀q,q≤ds.length→(∀(p:Nat) (d:aZ),p<q→ds[p]?=some d→d.dst≠some t)→(E q)[t]?=env[t]?:=by
 intro q
 induction q with
 | zero=>intro _ _;rw[T.E0]
 | succ q ih =>
  intro hq wR
  obtain⟨d,hd⟩:∃ d,ds[q]?=some d:=⟨ds[q]'(by omega),List.getElem?_eq_getElem (by omega)⟩
  rw[(T.step q d hd).2]
  have h1:=ih (by omega) (fun p d hp=>wR p d (by omega))
  have h2:=wR q d (by omega) hd
  unfold put
  split
  ·rename_i t' IP
   rw[List.getElem?_set,if_neg (fun e:t'=t=>h2 (by rw[IP,e])),h1]
  ·exact h1
theorem gR.new(T:gR call ds env [h] .start E HS LS V B){t p:Nat}{d:aZ}(hd:ds[p]?=some d)(ht:d.dst=some t)(bD:t<env.length):∀q,p<q→q≤ds.length →
  (∀(p':Nat) (d':aZ),p<p'→p'<q→ds[p']?=some d'→d'.dst≠some t)→(E q)[t]?=some (V p):=by
 intro q
 induction q with
 | zero=>intro h0;omega
 | succ q ih =>
  intro uL hq wR
  obtain⟨d',fI⟩:∃ d,ds[q]?=some d:=⟨ds[q]'(by omega),List.getElem?_eq_getElem (by omega)⟩
  rw[(T.step q d' fI).2]
  have hl:=T.len q (by omega)
  by_cases e:p=q
  ·subst e
   have:d'=d:=Option.some.inj (fI.symm.trans hd)
   subst this
   simp only[put,ht,List.getElem?_set]
   rw[if_pos trivial,if_pos (by omega)]
  ·have h1:=ih (by omega) (by omega) (fun p' d' a1 a2=>wR p' d' a1 (by omega))
   have h2:=wR q d' (by omega) (by omega) fI
   unfold put
   split
   ·rename_i t' IP
    rw[List.getElem?_set,if_neg (fun e:t'=t=>h2 (by rw[IP,e])),h1]
   ·exact h1
end
end Go.Dm
namespace Go.Dm
def Ctx.cut(c:Ctx)(N:Nat):Ctx:={c with ρ:=fun id=>if id<N then c.ρ id else none}
theorem jO{c:Ctx}{N id:Nat}(h:id<N):(c.cut N).ρ id=c.ρ id:=by simp[Ctx.cut,h]
theorem uV{c:Ctx}{N id:Nat}{p:Nat×Nat}(h:(c.cut N).ρ id=some p):id<N∧c.ρ id=some p:=by
 simp only[Ctx.cut]at h
 split at h
 ·exact⟨by assumption,h⟩
 ·cases h
theorem c6{c:Ctx}{ρ ρ':Nat→Option (Nat×Nat)}(h:∀id p,ρ id=some p→ρ' id=some p):cS {c with ρ:=ρ} {c with ρ:=ρ'} :=
 ⟨h,Nat.le_refl _,fun _ _ _=>rfl,fun _ h=>.inl h,fun _ _ _ h=>h,fun _ h=>h,fun _ _ h=>⟨h,rfl⟩,.refl _,rfl⟩
theorem qS{c:Ctx}{N M:Nat}(h:N≤M):cS (c.cut N) (c.cut M) :=
 c6 fun id p hp=>by
  split at hp
  ·rename_i bD;rw[if_pos (by omega)];exact hp
  ·cases hp
theorem PF{h:aA}{c:Ctx}(hR:Rel h c):c.cut h.n=c:=by
 have:(fun id=>if id<h.n then c.ρ id else none)=c.ρ:=by
  funext id
  split
  ·rfl
  ·rename_i hn
   cases hr:c.ρ id with
   | none=>rfl
   | some p=>exact absurd (hR.dom id (by rw[hr];simp)) hn
 cases c
 simp only[Ctx.cut]at *
 rw[this]
theorem Rel.setLim{h:aA}{c:Ctx}(hR:Rel h c){l:Nat}(hl:l≤h.n):Rel {h with lim:=l} c:=⟨hR.len,hl,hR.dom,hR.obj,hR.inj,hR.own,hR.notX,hR.old,hR.pend,hR.glob⟩
theorem Oo{h:aA}{c:Ctx}{b:Nat}:nU (h.push .dead) (c.cut (h.n+1)).ρ b↔nU h (c.cut h.n).ρ b:=by
 constructor
 ·rintro⟨id,o,x,hg,ha,hr⟩
  rw[cN]at hg
  split at hg
  ·cases hg;simp[kG]at ha
  ·have:=iD hg
   exact⟨id,o,x,hg,ha,by rw[jO this];rw[jO (by omega)]at hr;exact hr⟩
 ·rintro⟨id,o,x,hg,ha,hr⟩
  have:=iD hg
  exact⟨id,o,x,by rw[gT this];exact hg,ha,by rw[jO (by omega)];rw[jO this]at hr;exact hr⟩
theorem Rel.pad1{h:aA}{c:Ctx}(hR:Rel h (c.cut h.n)):Rel (h.push .dead) (c.cut (h.n+1)):=by
 refine⟨xI hR.len,Nat.le_succ_of_le hR.lim,fun id fS=>?_,fun id o hg=>?_,fun i j oi oj b x y hi hj qW Pe qL zF=>?_,fun b=>?_,hR.notX,hR.old,fun b hb=>⟨(hR.pend b hb).1,fun ho=>(hR.pend b hb).2 (Oo.1 ho)⟩,hR.glob.mono (qS (by omega))⟩
 ·cases hr:(c.cut (h.n+1)).ρ id with
  | none=>exact absurd hr fS
  | some p=>exact(uV hr).1
 ·rw[cN]at hg
  split at hg
  ·cases hg;trivial
  ·exact(hR.obj id o hg).mono (qS (by omega)) (fun _ _ _ _=>rfl)
 ·have old:∀i oi,(h.push .dead).get i=some oi→kG oi=true→h.get i=some oi:=by
   intro i oi hi qW
   rw[cN]at hi
   split at hi
   ·cases hi;simp[kG]at qW
   ·exact hi
  have gi:=old i oi hi qW
  have gj:=old j oj hj Pe
  have li:=iD gi
  have lj:=iD gj
  rw[jO (by omega)]at qL zF
  exact hR.inj i j oi oj b x y gi gj qW Pe (by rw[jO li];exact qL) (by rw[jO lj];exact zF)
 ·have:=hR.own b
  show c.O b↔_∨c.E b
  rw[Oo]
  exact this
theorem Rel.pad{h:aA}{c:Ctx}(hR:Rel h (c.cut h.n)):∀j,∃ h2:aA,Rel h2 (c.cut (h.n+j))∧h2.n=h.n+j∧∀id,id<h.n→h2.get id=h.get id:=by
 intro j
 induction j with
 | zero=>exact⟨h,hR,rfl,fun _ _=>rfl⟩
 | succ j ih =>
  obtain⟨h2,k1,k2,k3⟩:=ih
  refine⟨h2.push .dead,?_,by rw[Fb,k2];omega,fun id fS=>by rw[gT (by omega)];exact k3 id fS⟩
  have:=Rel.pad1 (c:=c) (h:=h2) (by rw[k2];exact k1)
  rw[k2]at this
  exact this
def Ms(c:Ctx)(b ety sz:Nat)(xs:List DV):Prop:=∃ cur,0<sz∧cur.size=xs.length*sz∧oU cur∧jS c xs sz cur 0∧c.w.heap[b]?=some (.cells cur ety (0,0))
theorem Ms.mono{c c':Ctx}{b ety sz:Nat}{xs:List DV}(h:Ms c b ety sz xs)(dI:cS c c')(hb:c'.w.heap[b]?=c.w.heap[b]?):Ms c' b ety sz xs:=by
 obtain⟨cur,h1,h2,h3,h4,h5⟩:=h
 exact⟨cur,h1,h2,h3,fun i hi=>⟨(h4 i hi).1,fun j hj=>by
  obtain⟨v,a1,a2,a3⟩:=(h4 i hi).2 j hj
  exact⟨v,a1,a2,a3.mono dI⟩⟩,hb.trans h5⟩
theorem Ul{P:Program}{o:Oper}{ety sz:Nat}{z:DV}(hc:mP P o=some (.alloc ety sz z)):o.op=.alloc ety∧∃ bytes,fK P ety=some (sz,bytes,z):=by
 unfold mP at hc
 split at hc
 case h_4 e ho =>
  split at hc
  ·rename_i eQ b z' he;cases hc;exact⟨ho,b,he⟩
  ·cases hc
 all_goals ((repeat' split at hc)<;>first|(cases hc;done)|(simp at hc;done))
theorem Du{P:Program}{o:Oper}{e sz len:Nat}{z:DV}{ps:List (Nat×Opd)}(hc:mP P o=some (.buildSlice e sz z len ps)):∃ t parts bytes,o.op=.buildSlice t len parts∧P.underlying t=some (.slice e)∧fK P e=some (sz,bytes,z) ∧
  parts.toList.mapM (fun(x:Nat×Operand)=>(opd x.2).map fun y=>(x.1,y))=some ps∧len*sz≤16777216:=by
 unfold mP at hc
 split at hc
 case h_7 t n parts ho =>
  split at hc
  ·rename_i e' ht
   split at hc
   ·rename_i eQ b z' he
    split at hc
    ·rename_i ps' j9
     split at hc
     ·rename_i hsm
      cases hc
      exact⟨t,parts,b,ho,ht,he,j9,hsm⟩
     ·cases hc
    ·cases hc
   ·cases hc
  ·cases hc
 all_goals ((repeat' split at hc)<;>first|(cases hc;done)|(simp at hc;done))
theorem NK{P:Program}{o:Oper}{d:DOp}(hc:mP P o=some d)(ha:d.cls=.alloc){c:Ctx}{env:Env}{a:Act}(hE:eI c env a){ety sz:Nat}{xs:List DV}(hm:Ha env d=some (ety,sz,xs)) :
  ∃ w' cur val,(execOp a.eval o).run P c.w=.ok (.value val) w'∧w'.heap.size=c.w.heap.size+1∧(∀k,k<c.w.heap.size→w'.heap[k]?=c.w.heap[k]?)∧qK c.w w' ∧
   w'.heap[c.w.heap.size]?=some (.cells cur ety (0,0))∧0<sz∧cur.size=xs.length*sz∧oU cur∧jS c xs sz cur 0 ∧
   ∀(c':Ctx) (id:Nat),c'.ρ id=some (c.w.heap.size,0)→c'.w.shape? c.w.heap.size=some (ety,xs.length*sz)→VR c' (AR id d) val:=by
 rcases Mi ha with⟨oY,eQ,z,rfl⟩|⟨oY,eQ,z,len,ps,rfl⟩
 ·simp only[Ha,Option.some.injEq,Prod.mk.injEq]at hm
  obtain⟨rfl,rfl,rfl⟩:=hm
  obtain⟨ho,bytes,he⟩:=Ul hc
  obtain⟨i,z0,hi,e1,e2,hz,Dz,fX,dK⟩:=iE he
  have lC:=Bj (c:=c) dK (gE Dz c)
  have hcells:=(fJ (c:=c) dK (gE Dz c)).2.1
  refine⟨{c.w with heap:=c.w.heap.push (.cells z0.cells oY)},z0.cells,.pointer (some ⟨c.w.heap.size,0,none⟩),?_,by simp,fun k hk=>by rw[Array.getElem?_push];simp;omega,.push (ob:=.cells z0.cells oY) rfl rfl rfl rfl,by simp,fX,by simp[hcells],sY (m:=1) lC fX (by omega) rfl,lC,fun c' id h1 _=>?_⟩
  ·simp[execOp,ho,Instr.alloc,zeroValue,typeInfo,hi,hz,newVar,newRow]
  ·have:=VR.ptr (c:=c') (id:=id) (sz:=eQ) (idx:=0) (off:=0) (b:=c.w.heap.size) (base:=0) h1
   simpa[AR]using this
 ·simp only[Ha,Option.map_eq_some_iff]at hm
  obtain⟨xs',QG,hm⟩:=hm
  simp only[Prod.mk.injEq]at hm
  obtain⟨rfl,rfl,rfl⟩:=hm
  obtain⟨t,parts,bytes,ho,ht,he,hp,hsmall⟩:=Du hc
  obtain⟨w',cur,r1,r2,r3,r4,r5,r6,r7⟩:=Ok (P:=P) (o:=o) (c:=c) (env:=env) (a:=a) ho ht he hp hsmall hE QG
  refine⟨w',cur,.slice (some ⟨c.w.heap.size,0,none⟩) len len,r1,by rw[r2];simp,fun k hk=>by rw[r2,Array.getElem?_push];simp;omega,.push (ob:=.cells cur oY) r2 rfl r3.1 r3.2,by rw[r2];simp,r4,r5,r6,r7,fun c' id h1 h2=>?_⟩
  have cJ:xs'.length=len:=by have:=uS _ QG;rw[List.length_replicate]at this;exact this
  exact .sl h1 h2 (by rw[cJ];simp) (Nat.le_refl _) (.inl (by simp))
def Li(listed:Array Bool)(i:Nat):Prop:=listed.getD i false=true
section
variable (ops:List Oper) (cV:List (Nat×aZ)) (EN:Nat→Env) (HS:Nat→List aA) (V:Nat→DV) (B:Nat→Bool) (c:Ctx) (env:Env)
structure sR(listed:Array Bool)(a:Act)(ĉ:Ctx)(m0:Nat):Prop where
 size:listed.size=ops.length
 closed:∀j o,ops[j]?=some o→Li listed j→∀e,e∈o.after.toList→Region.binds .any e=true→Li listed e.on
 asize:a.tmps.size=env.length
 defers:a.defers=[]
 vals:∀(p:Nat) (x:Nat×aZ) (t:Nat),cV[p]?=some x→Li listed x.1→x.2.dst=some t→t<env.length→VR (ĉ.cut (max (bG (HS (p+1))).n m0)) (V p) (a.tmps.getD t Go.undef)
 olds:∀t,(∀(p:Nat) (x:Nat×aZ),cV[p]?=some x→Li listed x.1→x.2.dst≠some t)→VR (ĉ.cut (max (bG (HS 0)).n m0)) ((env[t]?).getD .unk) (a.tmps.getD t Go.undef)
structure nM(listed:Array Bool)(k:Nat)(ĉ:Ctx):Prop where
 k_le:k≤cV.length
 front:∀(p:Nat) (x:Nat×aZ),p<k→cV[p]?=some x→x.2.kind≠.read→Li listed x.1
 rel:Rel (bG (HS k)) (ĉ.cut (bG (HS k)).n)
 le:cS c (ĉ.cut (bG (HS k)).n)
 X:ĉ.X=c.X
 E:∀b,ĉ.E b→c.E b∨∃ id,(bG (HS k)).n≤id∧ĉ.ρ id=some (b,0)
 cE:∀b,c.E b→ĉ.E b
 dom:∀id b x,(bG (HS k)).n≤id→ĉ.ρ id=some (b,x)→ĉ.E b∧¬c.E b∧∃ (p:Nat) (y:Nat×aZ),k≤p∧cV[p]?=some y∧Li listed y.1∧y.2.kind≠.read∧B p=true∧id=(bG (HS p)).n
 pend:∀(p:Nat) (x:Nat×aZ),k≤p→cV[p]?=some x→x.2.kind≠.read→Li listed x.1→x.2.op.cls=.alloc ∧
  (B p=true→∃ ety sz xs b,Ha (EN p) x.2.op=some (ety,sz,xs)∧ĉ.ρ (bG (HS p)).n=some (b,0)∧Ms (ĉ.cut (bG (HS p)).n) b ety sz xs)
 inj:∀id id' b,(bG (HS k)).n≤id→(bG (HS k)).n≤id'→ĉ.ρ id=some (b,0)→ĉ.ρ id'=some (b,0)→id=id'
end
section
variable {P:Program} {call:oV} {ops:List Oper} {cV:List (Nat×aZ)} {bs:List Nat} {E:Nat→Env} {HS:Nat→List aA} {LS:Nat→dF} {V:Nat→DV} {B:Nat→Bool} {c ĉ:Ctx} {env:Env} {h:aA}
 {listed:Array Bool} {a:Act} {k m0:Nat}
theorem AhF{i:Nat}(hl:Li listed i):i<listed.size:=by
 rcases Nat.lt_or_ge i listed.size with h|h
 ·exact h
 ·simp[Li,h]at hl
theorem kU{i j:Nat}(hj:j<listed.size):Li (listed.setIfInBounds j true) i↔Li listed i∨i=j:=by
 unfold Li
 by_cases e:i=j
 ·subst e;simp[hj]
 ·have:(listed.setIfInBounds j true).getD i false=listed.getD i false:=getD_set_ne false (Ne.symm e)
  rw[this];simp[e]
theorem sS(F:Fit P ops cV bs)(I:sR ops cV HS V env listed a ĉ m0):∀j,Li listed j→∀i,i<ops.length→pC bs j i=true→Li listed i:=by
 intro j
 induction j using Nat.strongRecOn with
 | _ j ih =>
  intro hj i hi hb
  have bD:j<ops.length:=by rw[←I.size];exact AhF hj
  obtain⟨e,h1,h2,h3⟩:=F.clos j ops[j] i (List.getElem?_eq_getElem bD) hi hb
  have h4:=I.closed j ops[j] (List.getElem?_eq_getElem bD) hj e h1 h2
  rcases h3 with h3|h3
  ·rw[←h3];exact h4
  ·exact ih e.on (F.edge j ops[j] e (List.getElem?_eq_getElem bD) h1 h2).2 h4 i hi h3
structure Up(ops:List Oper)(cV:List (Nat×aZ))(listed:Array Bool)(q:Nat)(x:Nat×aZ)(o:Oper):Prop where
 hx:cV[q]?=some x
 ho:ops[x.1]?=some o
 not:¬Li listed x.1
 all:∀e,e∈o.after.toList→Region.binds .any e=true→Li listed e.on
theorem Am(F:Fit P ops cV bs)(I:sR ops cV HS V env listed a ĉ m0){q:Nat}{x:Nat×aZ}{o:Oper}(U:Up ops cV listed q x o){i:Nat}(hi:i<ops.length)(hb:pC bs x.1 i=true):Li listed i:=by
 obtain⟨e,h1,h2,h3⟩:=F.clos x.1 o i U.ho hi hb
 rcases h3 with h3|h3
 ·rw[←h3];exact U.all e h1 h2
 ·exact sS F I e.on (U.all e h1 h2) i hi h3
theorem mM(F:Fit P ops cV bs){p:Nat}{x:Nat×aZ}(hx:cV[p]?=some x):x.1<ops.length:=by
 obtain⟨o,_,_,_,ho,_⟩:=F.comp p x hx
 exact(List.getElem?_eq_some_iff.1 ho).1
theorem Dl(F:Fit P ops cV bs){p q:Nat}{x y:Nat×aZ}(hx:cV[p]?=some x)(hy:cV[q]?=some y)(he:x.1=y.1):p=q:=by
 rcases Nat.lt_trichotomy p q with h|h|h
 ·exact absurd he (F.pair p q x y h hx hy).1
 ·exact h
 ·exact absurd he.symm (F.pair q p y x h hy hx).1
theorem Hz(F:Fit P ops cV bs){p q:Nat}{x y:Nat×aZ}(uL:p<q)(hx:cV[p]?=some x)(hy:cV[q]?=some y){t:Nat}(ht:x.2.dst=some t):y.2.dst≠some t:=by
 have h:=(F.pair p q x y uL hx hy).2.2
 simp only[xE,Bool.and_eq_true]at h
 have h2:=h.1.1.1.2
 intro e
 simp[ht,e]at h2
theorem Lj(F:Fit P ops cV bs){p q:Nat}{x y:Nat×aZ}(uL:p<q)(hx:cV[p]?=some x)(hy:cV[q]?=some y)(hb:pC bs y.1 x.1=false):Zn x.2 y.2=true:=by
 have h:=(F.pair p q x y uL hx hy).2.2
 simp only[xE,Bool.and_eq_true,hb,Bool.false_or]at h
 exact h.1.1.1.1
theorem Lf{x y:aZ}(h:Zn x y=true):BV x y=false:=by
 simp only[Zn,Bool.and_eq_true,Bool.not_eq_true']at h
 exact h.1
theorem qY{p:Nat}{x:Nat×aZ}(hx:cV[p]?=some x):(cV.map (·.2))[p]?=some x.2:=by simp[hx]
theorem tD{p:Nat}{d:aZ}(hd:(cV.map (·.2))[p]?=some d):∃ x,cV[p]?=some x∧x.2=d:=by
 simp only[List.getElem?_map,Option.map_eq_some_iff]at hd
 exact hd
theorem QS(F:Fit P ops cV bs)(T:gR call (cV.map (·.2)) env [h] .start E HS LS V B)(hc:eZ call)(hl:h.lim≤h.n)(I:sR ops cV HS V env listed a ĉ m0){q:Nat}{x:Nat×aZ}{o:Oper}(U:Up ops cV listed q x o)
  {t:Nat} (ht:t∈x.2.reads):VR (ĉ.cut (max (bG (HS q)).n m0)) (((E q)[t]?).getD .unk) (a.tmps.getD t Go.undef):=by
 have hq:q<cV.length:=(List.getElem?_eq_some_iff.1 U.hx).1
 have uK:q≤(cV.map (·.2)).length:=by simp;omega
 by_cases hw:∃ (p:Nat) (y:Nat×aZ),p<q∧cV[p]?=some y∧y.2.dst=some t
 ·obtain⟨p,y,hp,hy,hd⟩:=hw
  have hb:pC bs x.1 y.1=true:=by
   cases hb:pC bs x.1 y.1 with
   | true=>rfl
   | false =>
    have h1:=Lf (Lj F hp hy U.hx hb)
    simp only[BV,hd,Bool.or_eq_false_iff]at h1
    have h2:=h1.1.1
    rw[List.contains_eq_mem]at h2
    simp[ht]at h2
  have hly:=Am F I U (mM F hy) hb
  by_cases bD:t<env.length
  ·rw[T.new (qY hy) hd bD q hp uK (fun p' d' a1 a2 fI=>by
    obtain⟨y',e1,e2⟩:=tD fI
    subst e2
    exact Hz F a1 hy e1 hd)]
   have hn:=(T.keeps hc hl (by omega:p+1≤q) uK).n
   exact(I.vals p y t hy hly hd bD).mono (qS (by omega))
  ·rw[List.getElem?_eq_none (by rw[T.len q uK];omega)]
   exact .unk _
 ·rw[T.old q uK (fun p d hp hd e=>by
   obtain⟨y,e1,e2⟩:=tD hd
   subst e2
   exact hw ⟨p,y,hp,e1,e⟩)]
  have hn:=(T.keeps hc hl (Nat.zero_le q) uK).n
  refine(I.olds t fun p y hy hly hd=>?_).mono (qS (by omega))
  rcases Nat.lt_trichotomy p q with hp|hp|hp
  ·exact hw ⟨p,y,hp,hy,hd⟩
  ·subst hp
   have:y=x:=Option.some.inj (hy.symm.trans U.hx)
   subst this
   exact U.not hly
  ·cases hb:pC bs y.1 x.1 with
   | true=>exact U.not (sS F I y.1 hly x.1 (mM F U.hx) hb)
   | false =>
    have h1:=Lf (Lj F hp U.hx hy hb)
    simp only[BV,hd,Bool.or_eq_false_iff]at h1
    have h2:=h1.2
    rw[List.contains_eq_mem]at h2
    simp[ht]at h2
def sZ(env:Env)(ts:List Nat):Env:=(List.range env.length).map fun t=>if t∈ts then(env[t]?).getD .unk else .unk
theorem nO{env:Env}{ts:List Nat}:mZ ts env (sZ env ts):=by
 intro t ht
 by_cases bD:t<env.length
 ·simp[sZ,bD,ht]
 ·simp[sZ,bD]
theorem Ym(F:Fit P ops cV bs)(T:gR call (cV.map (·.2)) env [h] .start E HS LS V B)(hc:eZ call)(hl:h.lim≤h.n)(I:sR ops cV HS V env listed a ĉ m0){q:Nat}{x:Nat×aZ}{o:Oper}(U:Up ops cV listed q x o) :
  eI (ĉ.cut (max (bG (HS q)).n m0)) (sZ (E q) x.2.reads) a:=by
 have hq:q<cV.length:=(List.getElem?_eq_some_iff.1 U.hx).1
 have uK:q≤(cV.map (·.2)).length:=by simp;omega
 refine⟨by simp[sZ,T.len q uK,I.asize],I.defers,fun t ht=>?_⟩
 simp only[sZ,List.length_map,List.length_range]at ht
 simp only[sZ,List.getElem_map,List.getElem_range]
 split
 ·rename_i hm;exact QS F T hc hl I U hm
 ·exact .unk _
theorem Vd{g:Option (Nat×Bool)}{env:Env}{ts:List Nat}(hg:∀t w,g=some (t,w)→t∈ts):jV (sZ env ts) g=jV env g:=by
 cases g with
 | none=>rfl
 | some p =>
  obtain⟨t,w⟩:=p
  have ht:=hg t w rfl
  have:(sZ env ts)[t]?=env[t]?:=by
   by_cases bD:t<env.length
   ·simp[sZ,bD,ht]
   ·simp[sZ,bD]
  simp only[jV,this]
end
end Go.Dm
namespace Go.Dm
section
variable {P:Program} {call:oV} {ops:List Oper} {cV:List (Nat×aZ)} {bs:List Nat} {E:Nat→Env} {HS:Nat→List aA} {LS:Nat→dF} {V:Nat→DV} {B:Nat→Bool} {c ĉ ĉ1:Ctx} {env:Env} {h:aA}
 {listed:Array Bool} {a:Act} {k m0:Nat}
theorem Zl(a:Act)(dst:Option Nat)(v:Value)(t:Nat):(a.put dst v).tmps.getD t Go.undef=if dst=some t∧t<a.tmps.size then v else a.tmps.getD t Go.undef:=by
 cases dst with
 | none=>simp[Act.put]
 | some d =>
  simp only[Act.put,Array.getD_eq_getD_getElem?,Array.getElem?_setIfInBounds]
  by_cases e:d=t
  ·subst e
   by_cases bD:d<a.tmps.size
   ·simp[bD]
   ·simp[bD]
  ·simp[e]
theorem sR.mark(F:Fit P ops cV bs)(I:sR ops cV HS V env listed a ĉ m0)(dI:∀M,cS (ĉ.cut M) (ĉ1.cut M)){m1:Nat}(hm:m0≤m1){q:Nat}{x:Nat×aZ}{o:Oper}(U:Up ops cV listed q x o){v:Value}
  (hv:VR (ĉ1.cut (max (bG (HS (q+1))).n m1)) (V q) v):sR ops cV HS V env (listed.setIfInBounds x.1 true) (a.put x.2.dst v) ĉ1 m1:=by
 have bD:x.1<listed.size:=by rw[I.size];exact mM F U.hx
 refine⟨by simp[I.size],fun j o' Ks hj e he hb=>?_,?_,?_,fun p y t hy hL hd ht=>?_,fun t wR=>?_⟩
 ·rw[kU bD]at hj ⊢
  rcases hj with hj|hj
  ·exact .inl (I.closed j o' Ks hj e he hb)
  ·subst hj
   have:o'=o:=Option.some.inj (Ks.symm.trans U.ho)
   subst this
   exact .inl (U.all e he hb)
 ·cases x.2.dst<;>simp[Act.put,I.asize]
 ·cases x.2.dst<;>simp[Act.put,I.defers]
 ·rw[Zl]
  by_cases uL:p=q
  ·subst uL
   have:y=x:=Option.some.inj (hy.symm.trans U.hx)
   subst this
   rw[if_pos ⟨hd,by rw[I.asize];exact ht⟩]
   exact hv
  ·have eG:x.2.dst≠some t:=by
    rcases Nat.lt_or_gt_of_ne uL with h1|h1
    ·exact Hz F h1 hy U.hx hd
    ·exact fun e=>Hz F h1 U.hx hy e hd
   rw[if_neg (fun e=>eG e.1)]
   rw[kU bD]at hL
   have hL:Li listed y.1:=hL.resolve_right fun e=>uL (Dl F hy U.hx e)
   exact((I.vals p y t hy hL hd ht).mono (dI _)).mono (qS (by omega))
 ·rw[Zl,if_neg (fun e=>wR q x U.hx ((kU bD).2 (.inr rfl)) e.1)]
  exact((I.olds t fun p y hy hL=>wR p y hy ((kU bD).2 (.inl hL))).mono (dI _)).mono (qS (by omega))
theorem sR.mono(I:sR ops cV HS V env listed a ĉ m0)(dI:∀M,cS (ĉ.cut M) (ĉ1.cut M)){m1:Nat}(hm:m0≤m1):sR ops cV HS V env listed a ĉ1 m1 :=
 ⟨I.size,I.closed,I.asize,I.defers,fun p x t h1 h2 h3 h4=>((I.vals p x t h1 h2 h3 h4).mono (dI _)).mono (qS (by omega)),fun t h1=>((I.olds t h1).mono (dI _)).mono (qS (by omega))⟩
theorem nM.same(F:Fit P ops cV bs)(I:sR ops cV HS V env listed a ĉ m0)(M:nM cV E HS B c listed k ĉ){q:Nat}{x:Nat×aZ}{o:Oper}(U:Up ops cV listed q x o)(hk:x.2.kind=.read) :
  nM cV E HS B c (listed.setIfInBounds x.1 true) k ĉ:=by
 have bD:x.1<listed.size:=by rw[I.size];exact mM F U.hx
 refine⟨M.k_le,fun p y hp hy Hv=>(kU bD).2 (.inl (M.front p y hp hy Hv)),M.rel,M.le,M.X,M.E,M.cE,fun id b z fS hr=>?_,fun p y hp hy Hv hL=>?_,M.inj⟩
 ·obtain⟨h1,h2,p,y,h3,h4,h5,h6⟩:=M.dom id b z fS hr
  exact⟨h1,h2,p,y,h3,h4,(kU bD).2 (.inl h5),h6⟩
 ·rcases(kU bD).1 hL with h1|h1
  ·exact M.pend p y hp hy Hv h1
  ·have:=Dl F hy U.hx h1
   subst this
   have:y=x:=Option.some.inj (hy.symm.trans U.hx)
   subst this
   exact absurd hk Hv
theorem nM.idle(F:Fit P ops cV bs)(I:sR ops cV HS V env listed a ĉ m0)(M:nM cV E HS B c listed k ĉ){q:Nat}{x:Nat×aZ}{o:Oper}(U:Up ops cV listed q x o)(ha:x.2.op.cls=.alloc)(hb:B q=false) :
  nM cV E HS B c (listed.setIfInBounds x.1 true) k ĉ:=by
 have bD:x.1<listed.size:=by rw[I.size];exact mM F U.hx
 refine⟨M.k_le,fun p y hp hy Hv=>(kU bD).2 (.inl (M.front p y hp hy Hv)),M.rel,M.le,M.X,M.E,M.cE,fun id b z fS hr=>?_,fun p y hp hy Hv hL=>?_,M.inj⟩
 ·obtain⟨h1,h2,p,y,h3,h4,h5,h6⟩:=M.dom id b z fS hr
  exact⟨h1,h2,p,y,h3,h4,(kU bD).2 (.inl h5),h6⟩
 ·rcases(kU bD).1 hL with h1|h1
  ·exact M.pend p y hp hy Hv h1
  ·have:=Dl F hy U.hx h1
   subst this
   have:y=x:=Option.some.inj (hy.symm.trans U.hx)
   subst this
   exact⟨ha,fun e=>by rw[hb]at e;cases e⟩
theorem nM.skip(M:nM cV E HS B c listed k ĉ)(hk:k<cV.length)(hh:bG (HS (k+1))=bG (HS k))(hf:∀x:Nat×aZ,cV[k]?=some x→x.2.kind≠.read→Li listed x.1∧B k=false) :
  nM cV E HS B c listed (k+1) ĉ:=by
 refine⟨hk,fun p y hp hy Hv=>?_,by rw[hh];exact M.rel,by rw[hh];exact M.le,M.X,by rw[hh];exact M.E,M.cE,fun id b z fS hr=>?_,fun p y hp=>M.pend p y (by omega),by rw[hh];exact M.inj⟩
 ·by_cases e:p=k
  ·subst e;exact(hf y hy Hv).1
  ·exact M.front p y (by omega) hy Hv
 ·rw[hh]at fS
  obtain⟨h1,h2,p,y,h3,h4,h5,h6,h7,h8⟩:=M.dom id b z fS hr
  refine⟨h1,h2,p,y,?_,h4,h5,h6,h7,h8⟩
  by_cases e:p=k
  ·subst e;rw[(hf y h4 h6).2]at h7;cases h7
  ·omega
theorem Rel.early{h:aA}{c:Ctx}(hR:Rel h c){w':World}(mV:w'.heap.size=c.w.heap.size+1)(jB:∀k,k<c.w.heap.size→w'.heap[k]?=c.w.heap[k]?)(hq:qK c.w w') :
  Rel h ⟨w',c.ρ,fun b=>c.O b∨b=c.w.heap.size,c.X,fun b=>c.E b∨b=c.w.heap.size,c.τ⟩∧cS c ⟨w',c.ρ,fun b=>c.O b∨b=c.w.heap.size,c.X,fun b=>c.E b∨b=c.w.heap.size,c.τ⟩:=by
 have dI:cS c ⟨w',c.ρ,fun b=>c.O b∨b=c.w.heap.size,c.X,fun b=>c.E b∨b=c.w.heap.size,c.τ⟩ :=
  ⟨fun _ _ h=>h,by simp only[mV];omega,fun b hb _=>jB b hb,fun b hb=>hb.imp id (fun e=>by omega),fun b e n hs=>by
   have:=Jm hs
   simp only[World.shape?]at hs ⊢
   rw[jB b this];exact hs,fun _ h=>h,fun b hb hE=>⟨hE.resolve_right (by omega),jB b hb⟩,hq,rfl⟩
 have qZ:∀b,nU h c.ρ b→b<c.w.heap.size:=fun b ⟨id,o,x,hg,ha,hr⟩=>hR.block_lt hg ha hr
 refine⟨⟨hR.len,hR.lim,hR.dom,fun id o hg=>(hR.obj id o hg).mono dI (fun ha b x hr=>jB b (hR.block_lt hg ha hr)),hR.inj,fun b=>?_,fun b hb hx=>?_,fun b hb=>?_,fun b hb=>?_,hR.glob.mono dI⟩,dI⟩
 ·show c.O b∨_↔nU h c.ρ b∨(c.E b∨_)
  rw[hR.own b,or_assoc]
 ·rcases hb with hb|hb
  ·exact hR.notX b hb hx
  ·have:=hR.old b hx;omega
 ·have:=hR.old b hb
  show b<w'.heap.size
  omega
 ·rcases hb with hb|hb
  ·exact⟨by show b<w'.heap.size;have:=(hR.pend b hb).1;omega,(hR.pend b hb).2⟩
  ·exact⟨by show b<w'.heap.size;omega,fun ho=>by have:=qZ b ho;omega⟩
theorem nM.early(F:Fit P ops cV bs)(T:gR call (cV.map (·.2)) env [h] .start E HS LS V B)(hc:eZ call)(hl:h.lim≤h.n)(I:sR ops cV HS V env listed a ĉ m0)(M:nM cV E HS B c listed k ĉ)
  {q:Nat} {x:Nat×aZ} {o:Oper} (U:Up ops cV listed q x o) (hkq:k≤q) (La:x.2.op.cls=.alloc) {ety sz:Nat} {xs:List DV} (hmd:Ha (E q) x.2.op=some (ety,sz,xs)) (hb:B q=true)
  {w':World} (mV:w'.heap.size=ĉ.w.heap.size+1) (jB:∀k,k<ĉ.w.heap.size→w'.heap[k]?=ĉ.w.heap[k]?) (hqt:qK ĉ.w w') {cur:Array Value} (hnew:w'.heap[ĉ.w.heap.size]?=some (.cells cur ety (0,0))) (TT:0<sz) (Hy:cur.size=xs.length*sz) (uM:oU cur) (lC:jS (ĉ.cut (bG (HS q)).n) xs sz cur 0) :
  ∃ ĉ1:Ctx,ĉ1.w=w'∧(∀M,cS (ĉ.cut M) (ĉ1.cut M))∧nM cV E HS B c (listed.setIfInBounds x.1 true) k ĉ1∧ĉ1.ρ (bG (HS q)).n=some (ĉ.w.heap.size,0):=by
 have bD:x.1<listed.size:=by rw[I.size];exact mM F U.hx
 have hq:q<cV.length:=(List.getElem?_eq_some_iff.1 U.hx).1
 have uK:q<(cV.map (·.2)).length:=by simp;omega
 have Tu:(bG (HS k)).n≤(bG (HS q)).n:=(T.keeps hc hl hkq (by omega)).n
 have hkind:∀(p:Nat) (y:Nat×aZ),cV[p]?=some y→y.2.op.cls=.alloc→y.2.kind=.create:=fun p y hy ha=>by
  have:=F.kind p y hy
  unfold qD at this
  rw[ha]at this
  cases hk:y.2.kind<;>rw[hk]at this<;>first|rfl|cases this
 have uX:∀(p p':Nat) (y y':Nat×aZ),cV[p]?=some y→cV[p']?=some y'→y.2.op.cls=.alloc→B p=true→p<p'→(bG (HS p)).n<(bG (HS p')).n:=by
  intro p p' y y' hy j7 ha hB S2
  obtain⟨e',s',xs',_,_,h1⟩:=T.alloc (qY hy) ha (hkind p y hy ha) hB
  have vB:p'<(cV.map (·.2)).length:=by simp;exact(List.getElem?_eq_some_iff.1 j7).1
  have h2:=(T.keeps hc hl (by omega:p+1≤p') (by omega)).n
  rw[h1,Fb]at h2
  omega
 have hnone:ĉ.ρ (bG (HS q)).n=none:=by
  cases hr:ĉ.ρ (bG (HS q)).n with
  | none=>rfl
  | some pr =>
   obtain⟨b,x0⟩:=pr
   obtain⟨_,_,p,y,h3,h4,h5,h6,h7,h8⟩:=M.dom _ b x0 Tu hr
   have ha:=(M.pend p y h3 h4 h6 h5).1
   rcases Nat.lt_trichotomy p q with hh|hh|hh
   ·have:=uX p q y x h4 U.hx ha h7 hh;omega
   ·subst hh
    have:y=x:=Option.some.inj (h4.symm.trans U.hx)
    subst this
    exact absurd h5 U.not
   ·have:=uX q p x y U.hx h4 La hb hh;omega
 let ĉ1:Ctx:=⟨w',fun id=>if id=(bG (HS q)).n then some (ĉ.w.heap.size,0)else ĉ.ρ id,fun b=>ĉ.O b∨b=ĉ.w.heap.size,ĉ.X,fun b=>ĉ.E b∨b=ĉ.w.heap.size,ĉ.τ⟩
 have hrho:∀id p,ĉ.ρ id=some p→ĉ1.ρ id=some p:=fun id p hp=>by
  have:id≠(bG (HS q)).n:=fun e=>by subst e;rw[hnone]at hp;cases hp
  simp only[ĉ1,if_neg this];exact hp
 obtain⟨hrel,Zf⟩:=M.rel.early (w':=w') mV jB hqt
 have Zh:ĉ1.cut (bG (HS k)).n=⟨w',(ĉ.cut (bG (HS k)).n).ρ,fun b=>ĉ.O b∨b=ĉ.w.heap.size,ĉ.X,fun b=>ĉ.E b∨b=ĉ.w.heap.size,ĉ.τ⟩:=by
  have:(fun id=>if id<(bG (HS k)).n then ĉ1.ρ id else none)=(ĉ.cut (bG (HS k)).n).ρ:=by
   funext id
   simp only[Ctx.cut]
   split
   ·have:id≠(bG (HS q)).n:=by omega
    simp only[ĉ1,if_neg this]
   ·rfl
  simp only[Ctx.cut]at this ⊢
  rw[this]
 have hleM:∀M,cS (ĉ.cut M) (ĉ1.cut M):=fun M =>
  ⟨fun id p hp=>by
   obtain⟨h1,h2⟩:=uV hp
   rw[jO h1];exact hrho id p h2,Zf.size,Zf.frame,Zf.own,Zf.shape,Zf.X,Zf.pend,Zf.quiet,Zf.tok⟩
 have hElt:∀b,ĉ.E b→b<ĉ.w.heap.size:=fun b hb=>(M.rel.pend b hb).1
 refine⟨ĉ1,rfl,hleM,⟨M.k_le,fun p y hp hy Hv=>(kU bD).2 (.inl (M.front p y hp hy Hv)),by rw[Zh];exact hrel,M.le.trans (hleM _),M.X,fun b hE=>?_,fun b hE=>.inl (M.cE b hE),fun id b z' fS hr=>?_,fun p y hp hy Hv hL=>?_,fun id id' b h1 h2 h3 h4=>?_⟩,by simp[ĉ1]⟩
 ·rcases hE with hE|hE
  ·exact(M.E b hE).imp (fun x=>x) fun⟨id,h1,h2⟩=>⟨id,h1,hrho id _ h2⟩
  ·subst hE;exact .inr ⟨(bG (HS q)).n,Tu,by simp[ĉ1]⟩
 ·by_cases e:id=(bG (HS q)).n
  ·simp only[ĉ1,if_pos e,Option.some.injEq,Prod.mk.injEq]at hr
   refine⟨.inr hr.1.symm,fun hE=>?_,q,x,hkq,U.hx,(kU bD).2 (.inr rfl),?_,hb,e⟩
   ·have:=hElt b (M.cE b hE);omega
   ·rw[hkind q x U.hx La];simp
  ·simp only[ĉ1,if_neg e]at hr
   obtain⟨g1,g2,p,y,g3,g4,g5,g6⟩:=M.dom id b z' fS hr
   exact⟨.inl g1,g2,p,y,g3,g4,(kU bD).2 (.inl g5),g6⟩
 ·rcases(kU bD).1 hL with h1|h1
  ·obtain⟨g1,g2⟩:=M.pend p y hp hy Hv h1
   refine⟨g1,fun hB=>?_⟩
   obtain⟨e',s',xs',b,f1,f2,f3⟩:=g2 hB
   have vB:p<(cV.map (·.2)).length:=by simp;exact(List.getElem?_eq_some_iff.1 hy).1
   have hE:=(M.dom _ b 0 (T.keeps hc hl hp (by omega)).n f2).1
   exact⟨e',s',xs',b,f1,hrho _ _ f2,f3.mono (hleM _) (jB b (hElt b hE))⟩
  ·have:=Dl F hy U.hx h1
   subst this
   have:y=x:=Option.some.inj (hy.symm.trans U.hx)
   subst this
   exact⟨La,fun _=>⟨ety,sz,xs,_,hmd,by simp[ĉ1],cur,TT,Hy,uM,fun i hi=>⟨(lC i hi).1,fun j hj=>by
    obtain⟨v,a1,a2,a3⟩:=(lC i hi).2 j hj
    exact⟨v,a1,a2,a3.mono (hleM _)⟩⟩,hnew⟩⟩
 ·by_cases e1:id=(bG (HS q)).n<;>by_cases e2:id'=(bG (HS q)).n
  ·omega
  ·simp only[ĉ1,if_pos e1,if_neg e2,Option.some.injEq,Prod.mk.injEq]at h3 h4
   have:=hElt b (M.dom _ b 0 h2 h4).1
   omega
  ·simp only[ĉ1,if_neg e1,if_pos e2,Option.some.injEq,Prod.mk.injEq]at h3 h4
   have:=hElt b (M.dom _ b 0 h1 h3).1
   omega
  ·simp only[ĉ1,if_neg e1,if_neg e2]at h3 h4
   exact M.inj id id' b h1 h2 h3 h4
end
end Go.Dm
namespace Go.Dm
section
variable {P:Program} {call:oV} {ops:List Oper} {cV:List (Nat×aZ)} {bs:List Nat} {E:Nat→Env} {HS:Nat→List aA} {LS:Nat→dF} {V:Nat→DV} {B:Nat→Bool} {c ĉ ĉ1:Ctx} {env:Env} {h:aA}
 {listed:Array Bool} {a:Act} {k m0:Nat}
theorem nM.turn(F:Fit P ops cV bs)(T:gR call (cV.map (·.2)) env [h] .start E HS LS V B)(hc:eZ call)(hl:h.lim≤h.n)(I:sR ops cV HS V env listed a ĉ m0)(M:nM cV E HS B c listed k ĉ)
  {x:Nat×aZ} {o:Oper} (U:Up ops cV listed k x o) {w':World} {v:Value} {d:DV} (hp:pS (bG (HS k)) (ĉ.cut (bG (HS k)).n) (bG (HS (k+1))) w' d v) :
  ∃ ĉ1:Ctx,ĉ1.w=w'∧(∀M,cS (ĉ.cut M) (ĉ1.cut M))∧nM cV E HS B c (listed.setIfInBounds x.1 true) (k+1) ĉ1∧VR (ĉ1.cut (bG (HS (k+1))).n) d v:=by
 have bD:x.1<listed.size:=by rw[I.size];exact mM F U.hx
 have hk:k<cV.length:=(List.getElem?_eq_some_iff.1 U.hx).1
 have qM:k+1≤(cV.map (·.2)).length:=by simp;omega
 have Tu:=(T.keeps hc hl (by omega:k≤k+1) qM).n
 obtain⟨ρ',k1,k2,k3⟩:=hp
 let ĉ1:Ctx:=⟨w',fun id=>if id<(bG (HS (k+1))).n then ρ' id else ĉ.ρ id,fun b=>nU (bG (HS (k+1))) ρ' b∨ĉ.E b,ĉ.X,ĉ.E,ĉ.τ⟩
 have Zh:ĉ1.cut (bG (HS (k+1))).n=(ĉ.cut (bG (HS k)).n).next w' ρ' (bG (HS (k+1))):=by
  have:(fun id=>if id<(bG (HS (k+1))).n then ĉ1.ρ id else none)=ρ':=by
   funext id
   split
   ·rename_i fS;simp only[ĉ1,if_pos fS]
   ·rename_i fS
    cases hr:ρ' id with
    | none=>rfl
    | some p=>exact absurd (k1.dom id (by show ρ' id≠none;rw[hr];simp)) fS
  simp only[Ctx.cut,Ctx.next]at this ⊢
  rw[this]
 have far:∀id b z,(bG (HS k)).n≤id→ĉ.ρ id=some (b,z)→(bG (HS (k+1))).n≤id∧ĉ1.ρ id=ĉ.ρ id∧ĉ.E b∧¬c.E b ∧
   ∃ (p:Nat) (y:Nat×aZ),k+1≤p∧cV[p]?=some y∧Li listed y.1∧y.2.kind≠.read∧B p=true∧id=(bG (HS p)).n:=by
  intro id b z fS hr
  obtain⟨h1,h2,p,y,h3,h4,h5,h6,h7,h8⟩:=M.dom id b z fS hr
  have eG:p≠k:=fun e=>by
   subst e
   have:y=x:=Option.some.inj (h4.symm.trans U.hx)
   subst this
   exact U.not h5
  have vB:p<(cV.map (·.2)).length:=by simp;exact(List.getElem?_eq_some_iff.1 h4).1
  have h9:=(T.keeps hc hl (by omega:k+1≤p) (by omega)).n
  have iA:(bG (HS (k+1))).n≤id:=by omega
  exact⟨iA,by simp only[ĉ1,if_neg (Nat.not_lt.2 iA)],h1,h2,p,y,by omega,h4,h5,h6,h7,h8⟩
 have hleM:∀M,cS (ĉ.cut M) (ĉ1.cut M):=fun N =>
  ⟨fun id p hp=>by
   obtain⟨h1,h2⟩:=uV hp
   rw[jO h1]
   by_cases fS:id<(bG (HS k)).n
   ·have:=k2.rho id p (by rw[jO fS];exact h2)
    have h3:id<(bG (HS (k+1))).n:=by omega
    simp only[ĉ1,if_pos h3];exact this
   ·obtain⟨b,z⟩:=p
    rw[(far id b z (by omega) h2).2.1];exact h2,k2.size,k2.frame,k2.own,k2.shape,k2.X,k2.pend,k2.quiet,k2.tok⟩
 refine⟨ĉ1,rfl,hleM,⟨hk,fun p y hp hy Hv=>?_,by rw[Zh];exact k1,?_,M.X,fun b hE=>?_,M.cE,fun id b z fS hr=>?_,fun p y hp hy Hv hL=>?_,fun id id' b h1 h2 h3 h4=>?_⟩,by rw[Zh];exact k3⟩
 ·rw[kU bD]
  by_cases e:p=k
  ·subst e
   have:y=x:=Option.some.inj (hy.symm.trans U.hx)
   subst this
   exact .inr rfl
  ·exact .inl (M.front p y (by omega) hy Hv)
 ·exact M.le.trans ((hleM _).trans (qS Tu))
 ·exact(M.E b hE).imp (fun x=>x) fun⟨id,h1,h2⟩=>⟨id,(far id b 0 h1 h2).1,by rw[(far id b 0 h1 h2).2.1];exact h2⟩
 ·have Aw:ĉ.ρ id=some (b,z):=by simp only[ĉ1,if_neg (Nat.not_lt.2 fS)]at hr;exact hr
  obtain⟨_,_,g1,g2,p,y,g3,g4,g5,g6⟩:=far id b z (by omega) Aw
  exact⟨g1,g2,p,y,g3,g4,(kU bD).2 (.inl g5),g6⟩
 ·rcases(kU bD).1 hL with h1|h1
  ·obtain⟨g1,g2⟩:=M.pend p y (by omega) hy Hv h1
   refine⟨g1,fun hB=>?_⟩
   obtain⟨e',s',xs',b,f1,f2,f3⟩:=g2 hB
   have vB:p<(cV.map (·.2)).length:=by simp;exact(List.getElem?_eq_some_iff.1 hy).1
   have hn:=(T.keeps hc hl (by omega:k≤p) (by omega)).n
   obtain⟨_,g4,g5,_⟩:=far _ b 0 hn f2
   have rB:=(M.rel.pend b g5).1
   exact⟨e',s',xs',b,f1,by rw[g4];exact f2,f3.mono (hleM _) (k2.pend b rB g5).2⟩
  ·have:=Dl F hy U.hx h1
   omega
 ·have h3':ĉ.ρ id=some (b,0):=by simp only[ĉ1,if_neg (Nat.not_lt.2 h1)]at h3;exact h3
  have h4':ĉ.ρ id'=some (b,0):=by simp only[ĉ1,if_neg (Nat.not_lt.2 h2)]at h4;exact h4
  exact M.inj id id' b (by omega) (by omega) h3' h4'
theorem Rel.adopt{h:aA}{c:Ctx}(hR:Rel h (c.cut h.n)){b ety sz:Nat}{xs:List DV}(hr:c.ρ h.n=some (b,0))(hE:c.E b)(hf:Ms (c.cut h.n) b ety sz xs) :
  Rel (h.push (.arr ety sz xs (some xs.length))) (Ctx.cut {c with E:=fun y=>c.E y∧y≠b} (h.n+1)):=by
 obtain⟨cur,f1,f2,f3,f4,f5⟩:=hf
 have dI:cS (c.cut h.n) (Ctx.cut {c with E:=fun y=>c.E y∧y≠b} (h.n+1)) :=
  ⟨fun id p hp=>by
   obtain⟨h1,h2⟩:=uV hp
   rw[jO (by omega)];exact h2,Nat.le_refl _,fun _ _ _=>rfl,fun _ h=>.inl h,fun _ _ _ h=>h,fun _ h=>h,fun _ _ h=>⟨h.1,rfl⟩,.refl _,rfl⟩
 have rho:∀id,id<h.n→(Ctx.cut {c with E:=fun y=>c.E y∧y≠b} (h.n+1)).ρ id=(c.cut h.n).ρ id:=fun id fS=>by rw[jO (by omega),jO fS]
 have rhon:(Ctx.cut {c with E:=fun y=>c.E y∧y≠b} (h.n+1)).ρ h.n=some (b,0):=by rw[jO (by omega)];exact hr
 have hnot:=(hR.pend b hE).2
 have qZ:∀y,nU (h.push (.arr ety sz xs (some xs.length))) (Ctx.cut {c with E:=fun y=>c.E y∧y≠b} (h.n+1)).ρ y↔nU h (c.cut h.n).ρ y∨y=b:=by
  intro y
  constructor
  ·rintro⟨id,o,x,hg,ha,Aw⟩
   rw[cN]at hg
   split at hg
   ·rename_i e;subst e
    rw[rhon]at Aw;cases Aw;exact .inr rfl
   ·have:=iD hg
    rw[rho id this]at Aw
    exact .inl ⟨id,o,x,hg,ha,Aw⟩
  ·rintro(⟨id,o,x,hg,ha,Aw⟩|e)
   ·have:=iD hg
    exact⟨id,o,x,by rw[gT this];exact hg,ha,by rw[rho id this];exact Aw⟩
   ·subst e
    exact⟨h.n,_,0,cR,rfl,rhon⟩
 refine⟨xI hR.len,Nat.le_succ_of_le hR.lim,fun id fS=>?_,fun id o hg=>?_,fun i j oi oj y x1 x2 hi hj qW Pe qL zF=>?_,fun y=>?_,hR.notX,hR.old,fun y hy=>⟨(hR.pend y hy.1).1,fun ho=>?_⟩,hR.glob.mono dI⟩
 ·cases Aw:(Ctx.cut {c with E:=fun y=>c.E y∧y≠b} (h.n+1)).ρ id with
  | none=>exact absurd Aw fS
  | some p=>exact(uV Aw).1
 ·rw[cN]at hg
  split at hg
  ·rename_i e;subst e
   cases hg
   exact⟨b,0,cur,xs.length,rhon,f5,f1,by omega,Nat.le_refl _,(fun k hk=>by cases hk;exact⟨rfl,rfl⟩),f3,fun i hi=>⟨(f4 i hi).1,fun j hj=>by
    obtain⟨v,a1,a2,a3⟩:=(f4 i hi).2 j hj
    exact⟨v,a1,a2,a3.mono dI⟩⟩⟩
  ·exact(hR.obj id o hg).mono dI (fun _ _ _ _=>rfl)
 ·rw[cN]at hi hj
  split at hi<;>split at hj
  ·omega
  ·rename_i e1 e2
   subst e1
   rw[rhon]at qL;cases qL
   have:=iD hj
   rw[rho j this]at zF
   exact absurd ⟨j,oj,x2,hj,Pe,zF⟩ hnot
  ·rename_i e1 e2
   subst e2
   rw[rhon]at zF;cases zF
   have:=iD hi
   rw[rho i this]at qL
   exact absurd ⟨i,oi,x1,hi,qW,qL⟩ hnot
  ·have l1:=iD hi
   have l2:=iD hj
   rw[rho i l1]at qL
   rw[rho j l2]at zF
   exact hR.inj i j oi oj y x1 x2 hi hj qW Pe qL zF
 ·have:=hR.own y
  show c.O y↔_∨(c.E y∧y≠b)
  rw[qZ y]
  have h2:c.O y↔nU h (c.cut h.n).ρ y∨c.E y:=this
  rw[h2]
  by_cases e:y=b
  ·subst e;simp[hE]
  ·simp[e]
 ·rcases(qZ y).1 ho with h1|h1
  ·exact(hR.pend y hy.1).2 h1
  ·exact hy.2 h1
theorem Bs(F:Fit P ops cV bs){p:Nat}{y:Nat×aZ}(hy:cV[p]?=some y)(ha:y.2.op.cls=.alloc):y.2.kind=.create:=by
 have:=F.kind p y hy
 unfold qD at this
 rw[ha]at this
 cases hk:y.2.kind<;>rw[hk]at this<;>first|rfl|cases this
theorem nM.adopt(F:Fit P ops cV bs)(T:gR call (cV.map (·.2)) env [h] .start E HS LS V B)(M:nM cV E HS B c listed k ĉ){x:Nat×aZ}(hx:cV[k]?=some x)(hk:x.2.kind≠.read)(hL:Li listed x.1)(hb:B k=true) :
  ∃ ĉ1:Ctx,ĉ1.w=ĉ.w∧(∀M,cS (ĉ.cut M) (ĉ1.cut M))∧nM cV E HS B c listed (k+1) ĉ1:=by
 have bD:k<cV.length:=(List.getElem?_eq_some_iff.1 hx).1
 obtain⟨ha,h2⟩:=M.pend k x (Nat.le_refl _) hx hk hL
 obtain⟨ety,sz,xs,b,ho,hr,hf⟩:=h2 hb
 obtain⟨hE,hcE,_⟩:=M.dom _ b 0 (Nat.le_refl _) hr
 obtain⟨ety2,sz2,xs2,hm2,_,hh⟩:=T.alloc (qY hx) ha (Bs F hx ha) hb
 rw[ho]at hm2
 cases hm2
 have hn:(bG (HS (k+1))).n=(bG (HS k)).n+1:=by rw[hh];rfl
 have hleM:∀N,cS (ĉ.cut N) (Ctx.cut {ĉ with E:=fun y=>ĉ.E y∧y≠b} N):=fun N =>
  ⟨fun _ _ hp=>hp,Nat.le_refl _,fun _ _ _=>rfl,fun _ h=>.inl h,fun _ _ _ h=>h,fun _ h=>h,fun _ _ h=>⟨h.1,rfl⟩,.refl _,rfl⟩
 refine⟨{ĉ with E:=fun y=>ĉ.E y∧y≠b},rfl,hleM,⟨bD,fun p y hp hy Hv=>?_,?_,M.le.trans ((hleM _).trans (qS (by omega))),M.X,fun y hy=>?_,fun y hy=>⟨M.cE y hy,fun e=>hcE (e ▸ hy)⟩,fun id y x0 fS Aw=>?_,fun p y hp hy Hv hL=>⟨(M.pend p y (by omega) hy Hv hL).1,fun hB=>by
  obtain⟨e',s',xs',b',q1,q2,q3⟩:=(M.pend p y (by omega) hy Hv hL).2 hB
  exact⟨e',s',xs',b',q1,q2,q3.mono (hleM _) rfl⟩⟩,fun id id' y h1 h2=>M.inj id id' y (by omega) (by omega)⟩⟩
 ·by_cases e:p=k
  ·subst e
   have:y=x:=Option.some.inj (hy.symm.trans hx)
   subst this
   exact hL
  ·exact M.front p y (by omega) hy Hv
 ·rw[hn,hh]
  exact M.rel.adopt hr hE hf
 ·refine(M.E y hy.1).imp (fun x=>x) fun⟨id,h1,h2⟩=>⟨id,?_,h2⟩
  have:id≠(bG (HS k)).n:=fun e=>by
   subst e
   rw[hr]at h2
   cases h2
   exact hy.2 rfl
  omega
 ·obtain⟨g1,g2,p,yy,g3,g4,g5,g6,g7,g8⟩:=M.dom id y x0 (by omega) Aw
  have hpk:p≠k:=fun e=>by subst e;omega
  refine⟨⟨g1,fun e=>?_⟩,g2,p,yy,by omega,g4,g5,g6,g7,g8⟩
  subst e
  obtain⟨_,_,_,b',_,f2,_⟩:=(M.pend p yy g3 g4 g6 g5).2 g7
  rw[←g8]at f2
  rw[f2]at Aw
  cases Aw
  have:=M.inj id (bG (HS k)).n y (by omega) (Nat.le_refl _) f2 hr
  omega
def Max(cV:List (Nat×aZ))(listed:Array Bool)(k:Nat):Prop:=k=cV.length∨∃ x:Nat×aZ,cV[k]?=some x∧x.2.kind≠.read∧¬Li listed x.1
theorem gR.same(T:gR call (cV.map (·.2)) env [h] .start E HS LS V B){x:Nat×aZ}(hx:cV[k]?=some x)(hk:x.2.kind=.read∨B k=false):bG (HS (k+1))=bG (HS k):=by
 obtain⟨⟨hw,g,gs,hg,hf,ht⟩,_⟩:=T.step k x.2 (qY hx)
 cases hb:B k with
 | false =>
  obtain⟨_,e,_⟩:=hf hb
  rw[e]
  split
  ·rfl
  ·rw[hg];rfl
 | true =>
  rcases hk with hk|hk
  ·rcases ht hb with⟨_,e,_⟩|⟨qM,_⟩|⟨qM,_⟩|⟨qM,_⟩
   ·rw[e]
   ·rw[hk]at qM;cases qM
   ·rw[hk]at qM;cases qM
   ·rw[hk]at qM;cases qM
  ·rw[hb]at hk;cases hk
theorem nM.advance(F:Fit P ops cV bs)(T:gR call (cV.map (·.2)) env [h] .start E HS LS V B)(hc:eZ call)(hl:h.lim≤h.n):∀(j k:Nat) (ĉ:Ctx),cV.length-k=j→nM cV E HS B c listed k ĉ →
  ∃ k1 ĉ1,k≤k1∧(bG (HS k)).n≤(bG (HS k1)).n∧ĉ1.w=ĉ.w∧(∀M,cS (ĉ.cut M) (ĉ1.cut M))∧nM cV E HS B c listed k1 ĉ1∧Max cV listed k1:=by
 intro j
 induction j with
 | zero =>
  intro k ĉ hj M
  exact⟨k,ĉ,Nat.le_refl _,Nat.le_refl _,rfl,fun _=>.refl _,M,.inl (by have:=M.k_le;omega)⟩
 | succ j ih =>
  intro k ĉ hj M
  have bD:k<cV.length:=by omega
  have hx:cV[k]?=some cV[k]:=List.getElem?_eq_getElem bD
  have hn:=(T.keeps hc hl (by omega:k≤k+1) (by simp;omega)).n
  have go:∀ĉ1:Ctx,ĉ1.w=ĉ.w→(∀M,cS (ĉ.cut M) (ĉ1.cut M))→nM cV E HS B c listed (k+1) ĉ1 →
    ∃ k1 ĉ1,k≤k1∧(bG (HS k)).n≤(bG (HS k1)).n∧ĉ1.w=ĉ.w∧(∀M,cS (ĉ.cut M) (ĉ1.cut M))∧nM cV E HS B c listed k1 ĉ1∧Max cV listed k1:=by
   intro ĉ1 h1 h2 h3
   obtain⟨k2,ĉ2,g0,g1,g2,g3,g4,g5⟩:=ih (k+1) ĉ1 (by omega) h3
   exact⟨k2,ĉ2,by omega,by omega,g2.trans h1,fun N=>(h2 N).trans (g3 N),g4,g5⟩
  by_cases hk:cV[k].2.kind=.read
  ·exact go ĉ rfl (fun _=>.refl _) (M.skip bD (T.same hx (.inl hk)) (fun x uJ qM=>by
    have:x=cV[k]:=Option.some.inj (uJ.symm.trans hx)
    subst this
    exact absurd hk qM))
  ·by_cases hL:Li listed cV[k].1
   ·cases hb:B k with
    | false =>
     exact go ĉ rfl (fun _=>.refl _) (M.skip bD (T.same hx (.inr hb)) (fun x uJ qM=>by
      have:x=cV[k]:=Option.some.inj (uJ.symm.trans hx)
      subst this
      exact⟨hL,hb⟩))
    | true =>
     obtain⟨ĉ1,h1,h2,h3⟩:=M.adopt F T hx hk hL hb
     exact go ĉ1 h1 h2 h3
   ·exact⟨k,ĉ,Nat.le_refl _,Nat.le_refl _,rfl,fun _=>.refl _,M,.inr ⟨_,hx,hk,hL⟩⟩
end
end Go.Dm
