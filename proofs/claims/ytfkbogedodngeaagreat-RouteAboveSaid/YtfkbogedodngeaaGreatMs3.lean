/- A part of the proof. -/
import Derived.Test.YtfkbogedodngeaaGreatMs2
set_option linter.all false
namespace Go.Dm.Tc
theorem rR.up{t:ID}{M:List (ID×aZ)}{n:Nat}{r:aG×List iW}(h:rR t M (n+1) r):rR t M (n+2) r:=⟨h.ok,⟨h.b.l,h.b.s,h.b.z.mono (by omega),h.b.nr⟩,h.pr⟩
theorem SzK.zla{b:aG}{n k:Nat}(h:SzK b n)(hn:n≤100)(hk:k≤1000):ZL b k:=by
 have:=Nat.mul_le_mul hn hn
 obtain⟨h1,h2,h3,h4,h5⟩:=h
 exact⟨by omega,by omega,by omega,by omega,by omega⟩
theorem RaB.subLen{t:ID}{b:aG}{M:List (ID×aZ)}{n:Nat}(h:RaB t b M n)(x:ID)(p:aZ):(eV b x p).2.length≤1:=by
 unfold eV
 split
 ·simp
 ·rw[h.l.adv]
  simp only[List.foldl_cons,List.foldl_nil,eY]
  split
  ·simp only[List.nil_append];split<;>simp
  ·simp
theorem RaB.dropLen{t:ID}{b:aG}{M:List (ID×aZ)}{n:Nat}(h:RaB t b M n)(hn:n≤100)(x:ID)(q:Int):(dW b t x q).2.length≤20000:=by
 have h1:=Ag h.l.k t x q
 have h2:=h.z.ent
 have:=Nat.mul_le_mul hn hn
 omega
theorem RaB.unsubLen{t:ID}{b:aG}{M:List (ID×aZ)}{n:Nat}(h:RaB t b M n)(hn:n≤100)(x:ID):(eU b x).2.length≤20000:=by
 unfold eU
 split
 ·simp
 ·rw[h.l.adv]
  simp only[List.foldl_cons,List.foldl_nil,jX,List.nil_append]
  have h1:=Ag (h.l.k.endOwn x) t x (-1)
  have h2:=h.z.ent
  have h3:(endOwn b x).entries=b.entries:=rfl
  have:=Nat.mul_le_mul hn hn
  rw[h3]at h1
  omega
theorem RaH.next{t:ID}{K:aA}{t3 b4 mid:Nat}{b:aG}{M:List (ID×aZ)}(A:RaH t K t3 b4 mid b M)(b':aG)(o1 o2:DO):RaH t (((K.set b4 (.arr 31 6 [aQ .none b'] (some 1))).push o1).push o2) t3 b4 mid b' M:=by
 obtain⟨wf,lim,gt,gb,gm,nb,nt,ntb⟩:=A
 have lt:=aI gt
 have lb:=aI gb
 have lm:=aI gm
 refine⟨wf.set.push.push,lim,?_,?_,?_,nb,nt,ntb⟩
 ·rw[bP (by simp;omega),bP (by simp;omega),bD lb ntb];exact gt
 ·rw[bP (by simp;omega),bP (by simp;omega),eD wf gb]
 ·rw[bP (by simp;omega),bP (by simp;omega),bD lb nb.symm];exact gm
theorem LR(n:Int):vW n=0∨vW n=1:=by
 unfold vW
 have h:(BitVec.ofInt 64 n &&& BitVec.ofInt 64 1).toNat≤1:=by
  rw[BitVec.toNat_and]
  exact Nat.le_trans Nat.and_le_right (by decide)
 have hh:(BitVec.ofInt 64 n &&& BitVec.ofInt 64 1).toNat=0∨(BitVec.ofInt 64 n &&& BitVec.ofInt 64 1).toNat=1:=by omega
 rcases hh with h|h<;>rw[h]
 ·left;rfl
 ·right;rfl
theorem WG:pcF D t16 []=some (.bool true):=CY (n:=3000) (args:=[]) e16 rfl (by kernel_rfl)
set_option maxRecDepth 8000 in
set_option maxHeartbeats 8000000 in
theorem lw3(P:Res→Prop)(steps:List An)(dD:∀z∈steps,z.has.length≤9223372036854775807)(t:ID)(t3 b4 mid:Nat) :
  ∀(k i:Nat) (f:dK) (K:aA) (b:aG) (M:List (ID×aZ)),i+k=15→f 0=eL false 7 oE steps→f 3=.ptr t3 2 0 0→f 4=.ptr b4 6 0 0→f 6=.map mid→f 7=.int .i64 i→RaB t b M (2*i+1)→RaH t K t3 b4 mid b M →
  (∀F H b M n,F 4=.ptr b4 6 0 0→F 6=.map mid→RaB t b M n→RaH t H t3 b4 mid b M→P (run D 243 [] AZ F H)) →
  P (run D 243 [.block 0,.seq AZ] (.loop AX) f K):=by
 intro k
 induction k with
 | zero =>
  intro i f K b M hi f0 f3 f4 f6 f7 R A tQ
  have hi15:i=15:=by omega
  subst hi15
  rw[aO AX.eq_1]
  by_cases aY:15<steps.length
  ·have h1:(15:Int)<steps.length:=by omega
   simp[f0,f7,h1]
   exact tQ _ _ b M _ (by simp[f4]) (by simp[f6]) R A
  ·have h1:¬(15:Int)<steps.length:=by omega
   simp[f0,f7,h1]
   exact tQ _ _ b M _ (by simp[f4]) (by simp[f6]) R A
 | succ k ih =>
  intro i f K b M hi f0 f3 f4 f6 f7 R A tQ
  rw[aO AX.eq_1]
  by_cases aY:i<steps.length
  ·have Z5:(i:Int)<15:=by omega
   have KA:IntKind.i64.wrap ((i:Int)+1)=(i:Int)+1:=bC (by omega) (by omega)
   obtain⟨z,he⟩:∃ z,steps[i]=z:=⟨_,rfl⟩
   have hzl:=dD z (by rw[←he];exact List.getElem_mem aY)
   obtain⟨zk,zf,zt,zc,zs,has,vals⟩:=z
   simp only at hzl
   have hP:=s9 false false has vals hzl
   have hp:=Kt has vals
   generalize Gc has vals=p at hP hp
   have w1:=s8 zc 0 3 (by decide) (by decide) (by decide)
   have w2:=s8 zs 0 1 (by decide) (by decide) (by decide)
   have w3:=s8 zk 0 3 (by decide) (by decide) (by decide)
   have r1:=Ke zc 0 3 (by decide)
   have r3:=Ke zk 0 3 (by decide)
   generalize eE zc 0 3=xc at w1 r1
   generalize eE zs 0 1=xd at w2
   generalize eE zk 0 3=kk at w3 r3
   have hwc:IntKind.i64.wrap (xc+8)=xc+8:=bC (by omega) (by omega)
   have ha1:=LR zf
   have haq:2+vW zf=2∨2+vW zf=3:=by rcases ha1 with h|h<;>rw[h]<;>simp
   have hwq:IntKind.i64.wrap (2+vW zf)=2+vW zf:=bC (by omega) (by omega)
   have AA:=A
   obtain⟨wf,lim,gt,gb,gm,nb,nt,ntb⟩:=A
   have lt:=aI gt
   have lb:=aI gb
   have lm:=aI gm
   have n1:¬t3=K.n:=by omega
   have n2:¬b4=K.n:=by omega
   have n3:¬mid=K.n:=by omega
   have n4:¬t3=K.n+1:=by omega
   have n5:¬b4=K.n+1:=by omega
   have n6:¬mid=K.n+1:=by omega
   have lb1:b4<K.n+1:=by omega
   have lb2:b4<K.n+1+1:=by omega
   have hpr:=R.preds
   have zl1:ZL b b.aP.length:=R.z.zla (by omega) (by rw[R.l.adv];simp)
   have zl0:ZL b 0:=R.z.zla (by omega) (by decide)
   have hzb:mK b:=R.z.sized (by omega)
   have ho:b.cW.length<100000:=by have:=R.z.own;omega
   have c0:=s10 b xc xd p R.l.k zl1 hp ho
   have c1:=s11 b xc xd R.l.k zl0 (by rw[R.l.adv];simp)
   have c2:=s12 b 3 t.bS t.seq (xc+8) xd (2+vW zf) p R.l.k hzb hp
   have c3:=s13 b 4 t.bS t.seq (xc+8) xd (2+vW zf) [] R.l.k hzb
   have Gq:bO ([]:aZ)=.isl false 0 []:=rfl
   rw[Gq]at c3
   have fin:∀(r:aG×List iW) (F:dK) (H:aA),rR t M (2*i+3) r→r.2.length≤100000→RaH t H t3 b4 mid r.1 M→(∀j∈[0,3,4,6,7],F j=f j)→F 11=eL false 8 jA r.2 →
     P (run D 243 [.block 1,.seq NK,.loop AX,.block 0,.seq AZ] HT F H):=fun r F H hs hl hA hj ET=>by
    refine ls3 P _ t hs (by omega) hpr R.s.nd hl hA F ((hj 3 (by simp)).trans f3) ((hj 4 (by simp)).trans f4) ((hj 6 (by simp)).trans f6) ET fun F2 H2 Dg A2=>?_
    have c7:F2 7=.int .i64 i:=(Dg 7 (by simp)).trans ((hj 7 (by simp)).trans f7)
    simp[NK,c7,KA]
    generalize hF3:upd _ 7 _=F3
    exact ih (i+1) F3 H2 r.1 (r.2.foldl kL M) (by omega) (by rw[←hF3];simp[Dg 0 (by simp),hj 0 (by simp),f0]) (by rw[←hF3];simp[Dg 3 (by simp),hj 3 (by simp),f3]) (by rw[←hF3];simp[Dg 4 (by simp),hj 4 (by simp),f4]) (by rw[←hF3];simp[Dg 6 (by simp),hj 6 (by simp),f6]) (by rw[←hF3];simp) (by have:=hs.b;rwa[show 2*i+3=2*(i+1)+1 by omega]at this) A2 tQ
   have sR:kk=0∨kk=1∨kk=2∨kk=3:=by omega
   have GL:rR t M (2*i+1+1) (fN b (2+vW zf) t ⟨xc+8,xd⟩ p):=R.onSub hp haq
   rcases sR with rfl|rfl|rfl|rfl
   ·simp[f0,f3,f4,f6,f7,aY,Z5,he,oE,lim,wf,e8,w1,w2,w3,e9,hP,turn,gt,gb,gm,n1,n2,n3,n4,n5,n6,lb,lb1,lb2,e10,c0]
    generalize hF:upd _ 11 _=F1
    refine fin (eV b ⟨xc,xd⟩ p) F1 _ (R.subscribe hp) (by have:=R.subLen ⟨xc,xd⟩ p;omega) (AA.next _ _ _) (fun j hj=>?_) (by rw[←hF];simp)
    rw[←hF]
    simp only[List.mem_cons,List.not_mem_nil,or_false]at hj
    rcases hj with rfl|rfl|rfl|rfl|rfl<;>simp
   ·simp[f0,f3,f4,f6,f7,aY,Z5,he,oE,lim,wf,e8,w1,w2,w3,e9,hP,turn,gt,gb,gm,n1,n2,n3,n4,n5,n6,lb,lb1,lb2,e11,c1]
    generalize hF:upd _ 11 _=F1
    refine fin (eU b ⟨xc,xd⟩) F1 _ (R.unsubscribe _) (by have:=R.unsubLen (by omega) ⟨xc,xd⟩;omega) (AA.next _ _ _) (fun j hj=>?_) (by rw[←hF];simp)
    rw[←hF]
    simp only[List.mem_cons,List.not_mem_nil,or_false]at hj
    rcases hj with rfl|rfl|rfl|rfl|rfl<;>simp
   ·simp[f0,f3,f4,f6,f7,aY,Z5,he,oE,lim,wf,e8,w1,w2,w3,e9,hP,turn,gt,gb,gm,n1,n2,n3,n4,n5,n6,lb,lb1,lb2,hwc,Am,hwq,e12,Fj,c2]
    generalize hF:upd _ 11 _=F1
    refine fin (fN b (2+vW zf) t ⟨xc+8,xd⟩ p) F1 _ ((GL.up)) (by have:=Fx b (2+vW zf) t ⟨xc+8,xd⟩ p;omega) (AA.next _ _ _) (fun j hj=>?_) (by rw[←hF];simp)
    rw[←hF]
    simp only[List.mem_cons,List.not_mem_nil,or_false]at hj
    rcases hj with rfl|rfl|rfl|rfl|rfl<;>simp
   ·simp[f0,f3,f4,f6,f7,aY,Z5,he,oE,lim,wf,e8,w1,w2,w3,e9,hP,turn,gt,gb,gm,n1,n2,n3,n4,n5,n6,lb,lb1,lb2,hwc,Am,hwq,e13,Fj,c3]
    generalize hF:upd _ 11 _=F1
    refine fin (dW b t ⟨xc+8,xd⟩ (2+vW zf)) F1 _ ((R.drop _ _).up) (by have:=R.dropLen (by omega) ⟨xc+8,xd⟩ (2+vW zf);omega) (AA.next _ _ _) (fun j hj=>?_) (by rw[←hF];simp)
    rw[←hF]
    simp only[List.mem_cons,List.not_mem_nil,or_false]at hj
    rcases hj with rfl|rfl|rfl|rfl|rfl<;>simp
  ·have:¬(i<steps.length):=aY
   simp[f0,f7,aY]
   exact tQ _ _ b M _ (by simp[f4]) (by simp[f6]) R A
set_option maxRecDepth 8000 in
set_option maxHeartbeats 4000000 in
theorem s3(steps:List An)(dD:∀z∈steps,z.has.length≤9223372036854775807):pcF D t3 [eL false 7 oE steps]=some (.bool true):=by
 have hN:=NY
 have hb0:eR ⟨0,[1,2,3],[],[],[],[]⟩:=eR.start rfl (by decide)
 have hL:=s6 .none ⟨0,[1,2,3],[],[],[],[]⟩ 1 0 [] 1 ⟨by decide,by decide,by decide,by decide,by decide⟩ hb0.ra hb0.rs
 have cM:eQ ⟨0,[1,2,3],[],[],[],[]⟩ ⟨⟨1,0⟩,[],1⟩=(⟨0,[1,2,3],[⟨⟨1,0⟩,[],1⟩],[⟨1,0⟩],[],[]⟩,true):=by simp[eQ,oN,bG]
 have hk:=hb0.learn (a:=⟨⟨1,0⟩,[],1⟩) (by decide) Fl
 rw[cM]at hL hk
 have Gq:bO ([]:aZ)=.isl false 0 []:=rfl
 rw[Gq]at hL
 have hJ:=WG
 unfold pcF
 rw[aM _ _ _ _ (by simp[t3])]
 simp[t3,mkIsl,e7,hN,e6,hL,Fj,turn]
 generalize hF:upd _ 7 _=F
 generalize hK:aA.push _ _=K
 refine lw3 (fun r=>gV (fin [.t 2] r)=some (.bool true)) steps dD ⟨1,0⟩ 0 2 3 15 0 F K ⟨0,[1,2,3],[⟨⟨1,0⟩,[],1⟩],[⟨1,0⟩],[],[]⟩ [] (by omega) (by rw[←hF];simp) (by rw[←hF];simp) (by rw[←hF];simp) (by rw[←hF];simp) (by rw[←hF];simp) ⟨⟨hk,rfl⟩,⟨by simp,fun x p=>by simp⟩,⟨by decide,by decide,by decide,by decide,by decide⟩,rfl⟩ ?_ ?_
 ·refine⟨by rw[←hK];simp,by rw[←hK];simp,by rw[←hK];simp,by rw[←hK];simp,by rw[←hK];simp[eP,fP],by decide,by decide,by decide⟩
 ·intro F2 H2 b M n a4 a6 R A
  obtain⟨wf,lim,gt,gb,gm,nb,nt,ntb⟩:=A
  have Oc:=R.s.le R.l
  have nI:(fP (eP M)).length=M.length:=by simp[fP,eP]
  have oC:(M.length:Int)≤b.entries.length:=by omega
  simp[AZ,a4,a6,gm,gb,EE,lL,nI,oC,Oc,e16,hJ]
end Go.Dm.Tc
