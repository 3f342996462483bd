/-
Part 2 of "Dw": the same with what is still to be done laid in a row, and the slots by number: each step is one equation.
-/
import Derived.Test.YtlknnhbggakhnaaMm3
import Derived.IntWalk
import Derived.ChangeArms
import Derived.ChangeSame
set_option linter.all false
namespace Go.Dm
abbrev FEnv:=Nat→DV
def tab (N:Nat) (f:FEnv):Env:=(List.range N).map f
def upd (f:FEnv) (d:Nat) (v:DV):FEnv:=fun i=>if i=d then v else f i
def putF (f:FEnv) (dst:Option Nat) (v:DV):FEnv:=match dst with|some d=>upd f d v|none=>f
def rd (N:Nat) (f:FEnv) (i:Nat):DV:=if i<N then f i else .unk
def argF (args:List DV):FEnv:=fun i=>args.getD i undefD
theorem tab_get (N:Nat) (f:FEnv) (i:Nat):(tab N f)[i]?=if i<N then some (f i) else none:=by
 by_cases h:i<N
 ·simp [tab,h]
 ·simp only [tab,List.getElem?_map,if_neg h]
  rw [List.getElem?_eq_none (by simp;omega)];rfl
theorem tab_getD (N:Nat) (f:FEnv) (i:Nat):((tab N f)[i]?).getD .unk=rd N f i:=by
 rw [tab_get];unfold rd;split<;>rfl
theorem tab_set (N:Nat) (f:FEnv) (d:Nat) (v:DV):(tab N f).set d v=tab N (upd f d v):=by
 apply List.ext_getElem?
 intro i
 rw [List.getElem?_set,tab_get,tab_get]
 simp only [tab,List.length_map,List.length_range,upd]
 by_cases e:d=i
 ·subst e
  by_cases h:d<N<;>simp [h]
 ·have e':¬i=d:=fun q=>e q.symm
  simp only [if_neg e,if_neg e']
theorem put_tab (N:Nat) (f:FEnv) (dst:Option Nat) (v:DV):put (tab N f) dst v=tab N (putF f dst v):=by
 cases dst with
 | none=>rfl
 | some d=>exact tab_set N f d v
theorem tab_args (N:Nat) (args:List DV) (h:args.length≤N):args++List.replicate (N-args.length) undefD=tab N (argF args):=by
 apply List.ext_getElem?
 intro i
 rw [tab_get,List.getElem?_append]
 unfold argF
 by_cases h1:i<args.length
 ·rw [if_pos h1,if_pos (by omega)]
  simp [h1]
 ·rw [if_neg h1]
  by_cases h2:i<N
  ·rw [if_pos h2,List.getElem?_replicate,if_pos (by omega),List.getD_eq_getElem?_getD,List.getElem?_eq_none (by omega)];rfl
  ·rw [if_neg h2,List.getElem?_replicate,if_neg (by omega)]
theorem eval_t (N:Nat) (f:FEnv) (i:Nat):Opd.eval (tab N f) (.t i)=rd N f i:=tab_getD N f i
theorem eval_c (env:Env) (v:DV):Opd.eval env (.c v)=v:=rfl
inductive Fr where
 | seq (b:DCode)
 | block (id:Nat)
 | loop (b:DCode)
noncomputable def retL (D:DProg):List Fr→Ex→Env→Heap→Res
 | [],e,env,h=>.ok e env h
 | .seq b::S,e,env,h=>match e with
  | .normal=>match ev D b env h with
   | .ok e env h=>retL D S e env h
   | .fail=>.fail
  | e=>retL D S e env h
 | .block id::S,e,env,h=>retL D S (match e with|.exit i=>if i=id then .normal else .exit i|e=>e) env h
 | .loop b::S,e,env,h=>match e with
  | .normal=>match ev D (.loop b) env h with
   | .ok e env h=>retL D S e env h
   | .fail=>.fail
  | e=>retL D S e env h
noncomputable def after (D:DProg) (S:List Fr):Res→Res
 | .ok e env h=>retL D S e env h
 | .fail=>.fail
noncomputable def run (D:DProg) (N:Nat) (S:List Fr) (c:DCode) (f:FEnv) (h:Heap):Res:=after D S (ev D c (tab N f) h)
noncomputable def ret (D:DProg) (N:Nat) (S:List Fr) (e:Ex) (f:FEnv) (h:Heap):Res:=retL D S e (tab N f) h
noncomputable def runC (D:DProg) (N:Nat) (S:List Fr) (a b:DCode) (f:FEnv) (h:Heap):DV→Res
 | .bool true=>run D N S a f h
 | .bool false=>run D N S b f h
 | _=>.fail
noncomputable def runO (D:DProg) (N:Nat) (S:List Fr) (ops:List DOper) (f:FEnv) (h:Heap):Res :=
 match runOps (fc D) ops (tab N f) h with
 | some (env,h)=>retL D S .normal env h
 | none=>.fail
noncomputable def runV (D:DProg) (N:Nat) (S:List Fr) (dst:Option Nat) (r:List DOper) (f:FEnv):Option (DV×Heap)→Res
 | some (v,h)=>runO D N S r (putF f dst v) h
 | none=>.fail
noncomputable def runG (D:DProg) (N:Nat) (S:List Fr) (o:DOper) (w:Bool) (r:List DOper) (f:FEnv) (h:Heap):DV→Res
 | .bool b=>if b=w then runV D N S o.dst r f (oneOp (fc D) o.op (tab N f) h) else runO D N S r (putF f o.dst undefD) h
 | .tup _=>runO D N S r (putF f o.dst undefD) h
 | _=>.fail
noncomputable def runD (D:DProg) (N:Nat) (S:List Fr) (ops:List DOper) (f:FEnv) (hs:List Heap) (L:DLog):Res :=
 match runDraw (fc D) ops (tab N f) hs L with
 | some (env,h)=>retL D S .normal env h
 | none=>.fail
noncomputable def runDR (D:DProg) (N:Nat) (S:List Fr) (dst:Option Nat) (r:List DOper) (f:FEnv) (hs:List Heap) (L:DLog):Option (DV×Heap)→Res
 | some (v,_)=>runD D N S r (putF f dst v) hs L
 | none=>.fail
noncomputable def runDW (D:DProg) (N:Nat) (S:List Fr) (dst:Option Nat) (r:List DOper) (f:FEnv) (hs:List Heap) (L:DLog):Option (DV×Heap)→Res
 | some (v,h)=>runD D N S r (putF f dst v) (h::hs) L
 | none=>.fail
noncomputable def runDX (D:DProg) (N:Nat) (S:List Fr) (dst:Option Nat) (r:List DOper) (f:FEnv) (hs:List Heap):Option (DV×Heap×DLog)→Res
 | some (v,h,L)=>runD D N S r (putF f dst v) (h::hs) L
 | none=>.fail
noncomputable def runDH (D:DProg) (N:Nat) (S:List Fr) (dst:Option Nat) (op:DOp) (cm:Bool) (r:List DOper) (f:FEnv) (hs:List Heap) (L:DLog):Option Heap→Res
 | some h0=>runDR D N S dst r f hs (L.see cm (mark (tab N f) op)) (stepOp h0 (tab N f) op)
 | none=>.fail
noncomputable def runDC (D:DProg) (N:Nat) (S:List Fr) (dst:Option Nat) (op:DOp) (r:List DOper) (f:FEnv) (h:Heap) (gs:List Heap) (L:DLog):Option Heap→Res
 | some h0=>runDX D N S dst r f (h::gs) (createOp (fc D) h0.n gs.length L op (tab N f) h)
 | none=>.fail
noncomputable def runDK (D:DProg) (N:Nat) (S:List Fr) (dst:Option Nat) (op:DOp) (snap:Nat) (cm:Bool) (r:List DOper) (f:FEnv) (hs:List Heap) (L:DLog):OKind→Res
 | .read=>if L.free snap (target (tab N f) op)=true then runDH D N S dst op cm r f hs L (snapAt hs snap) else .fail
 | .write=>match hs with
  | h::_=>runDW D N S dst r f hs L (oneOp (fc D) op (tab N f) h)
  | []=>.fail
 | .create=>match hs with
  | h::gs=>runDC D N S dst op r f h gs L (snapAt hs snap)
  | []=>.fail
noncomputable def runDN (D:DProg) (N:Nat) (S:List Fr) (dst:Option Nat) (k:OKind) (r:List DOper) (f:FEnv) (L:DLog):List Heap→Res
 | h::hs=>runD D N S r (putF f dst undefD) (if k=.read then h::hs else h::h::hs) L
 | []=>.fail
noncomputable def runDG (D:DProg) (N:Nat) (S:List Fr) (o:DOper) (w:Bool) (r:List DOper) (f:FEnv) (hs:List Heap) (L:DLog):DV→Res
 | .bool b=>if b=w then runDK D N S o.dst o.op o.snap o.calm r f hs L o.kind else runDN D N S o.dst o.kind r f L hs
 | .tup _=>runDN D N S o.dst o.kind r f L hs
 | _=>.fail
noncomputable def callV (D:DProg) (as:List DV) (h:Heap):DV→Option (DV×Heap)
 | .func g cap=>fc D g (as++cap) h
 | _=>none
section
variable (D:DProg) (N:Nat) (S:List Fr) (f:FEnv) (h:Heap)
theorem run_skip:run D N S .skip f h=ret D N S .normal f h:=by unfold run;rw [ev_skip];rfl
theorem run_exit (id:Nat):run D N S (.exit id) f h=ret D N S (.exit id) f h:=by unfold run;rw [ev_exit];rfl
theorem run_ret:run D N S .ret f h=ret D N S .ret f h:=by unfold run;rw [ev_ret];rfl
theorem run_seq (a b:DCode):run D N S (.seq a b) f h=run D N (.seq b::S) a f h:=by
 unfold run
 rw [ev_seq]
 cases ev D a (tab N f) h with
 | fail=>rfl
 | ok e env h1 =>
  cases e<;>simp only [after,retL]
theorem run_cond (c:Opd) (a b:DCode):run D N S (.cond c a b) f h=runC D N S a b f h (c.eval (tab N f)):=by
 unfold run
 rw [ev_cond]
 unfold runC
 split<;>simp_all [run,after]
theorem run_block (id:Nat) (b:DCode):run D N S (.block id b) f h=run D N (.block id::S) b f h:=by
 unfold run
 rw [ev_block]
 cases ev D b (tab N f) h with
 | fail=>rfl
 | ok e env h1 =>
  cases e with
  | exit i =>
   by_cases e:i=id
   ·simp only [after,retL,if_pos e]
   ·simp only [after,retL,if_neg e]
  | _=>rfl
theorem run_loop (b:DCode):run D N S (.loop b) f h=run D N (.loop b::S) b f h:=by
 unfold run
 rw [ev_loop]
 cases ev D b (tab N f) h with
 | fail=>rfl
 | ok e env h1 =>
  cases e<;>simp only [after,retL]
theorem run_region (ops:List DOper):run D N S (.region ops) f h=runO D N S ops f h:=by
 unfold run runO
 rw [ev_region]
 cases runOps (fc D) ops (tab N f) h<;>rfl
theorem run_draw (ops:List DOper):run D N S (.draw ops) f h=runD D N S ops f [h] .start:=by
 unfold run runD
 rw [ev_draw]
 cases runDraw (fc D) ops (tab N f) [h] .start<;>rfl
theorem runC_true (a b:DCode):runC D N S a b f h (.bool true)=run D N S a f h:=rfl
theorem runC_false (a b:DCode):runC D N S a b f h (.bool false)=run D N S b f h:=rfl
theorem runC_ite (a b:DCode) (t:Bool):runC D N S a b f h (.bool t)=if t=true then run D N S a f h else run D N S b f h:=by cases t<;>rfl
theorem ret_nil (e:Ex):ret D N [] e f h=.ok e (tab N f) h:=rfl
theorem ret_seq (b:DCode):ret D N (.seq b::S) .normal f h=run D N S b f h:=by
 unfold ret run;simp only [retL];cases ev D b (tab N f) h<;>rfl
theorem ret_seq_exit (b:DCode) (i:Nat):ret D N (.seq b::S) (.exit i) f h=ret D N S (.exit i) f h:=rfl
theorem ret_seq_ret (b:DCode):ret D N (.seq b::S) .ret f h=ret D N S .ret f h:=rfl
theorem ret_block (id:Nat):ret D N (.block id::S) .normal f h=ret D N S .normal f h:=rfl
theorem ret_block_ret (id:Nat):ret D N (.block id::S) .ret f h=ret D N S .ret f h:=rfl
theorem ret_block_exit (id i:Nat):ret D N (.block id::S) (.exit i) f h=ret D N S (if i=id then .normal else .exit i) f h:=rfl
theorem ret_loop (b:DCode):ret D N (.loop b::S) .normal f h=run D N S (.loop b) f h:=by
 unfold ret run;simp only [retL];cases ev D (.loop b) (tab N f) h<;>rfl
theorem ret_loop_exit (b:DCode) (i:Nat):ret D N (.loop b::S) (.exit i) f h=ret D N S (.exit i) f h:=rfl
theorem ret_loop_ret (b:DCode):ret D N (.loop b::S) .ret f h=ret D N S .ret f h:=rfl
theorem runO_nil:runO D N S [] f h=ret D N S .normal f h:=rfl
theorem runO_cons (dst:Option Nat) (op:DOp) (k:OKind) (s:Nat) (cm:Bool) (r:List DOper) :
  runO D N S (⟨dst,op,none,k,s,cm⟩::r) f h=runV D N S dst r f (oneOp (fc D) op (tab N f) h):=by
 unfold runO
 simp only [runOps,wantedD]
 cases oneOp (fc D) op (tab N f) h with
 | none=>rfl
 | some p=>simp only [runV,put_tab];rfl
theorem runO_guard (dst:Option Nat) (op:DOp) (t:Nat) (w:Bool) (k:OKind) (s:Nat) (cm:Bool) (r:List DOper) :
  runO D N S (⟨dst,op,some (t,w),k,s,cm⟩::r) f h=runG D N S ⟨dst,op,some (t,w),k,s,cm⟩ w r f h (rd N f t):=by
 unfold runO
 simp only [runOps,wantedD,tab_get]
 unfold rd
 by_cases hlt:t<N
 ·simp only [if_pos hlt]
  cases hv:f t with
  | bool b =>
   simp only [runG]
   by_cases e:b=w
   ·subst e
    simp only [beq_self_eq_true,if_true]
    cases oneOp (fc D) op (tab N f) h with
    | none=>rfl
    | some p=>simp only [runV,put_tab];rfl
   ·have:(b == w)=false:=by simpa using e
    simp only [this,if_neg e,put_tab];rfl
  | tup l=>simp only [runG,put_tab];rfl
  | _=>rfl
 ·simp only [if_neg hlt];rfl
theorem runV_some (dst:Option Nat) (r:List DOper) (v:DV):runV D N S dst r f (some (v,h))=runO D N S r (putF f dst v) h:=rfl
theorem runG_bool (o:DOper) (w:Bool) (r:List DOper) (b:Bool):runG D N S o w r f h (.bool b)=if b=w then runV D N S o.dst r f (oneOp (fc D) o.op (tab N f) h) else runO D N S r (putF f o.dst undefD) h:=rfl
theorem runG_tup (o:DOper) (w:Bool) (r:List DOper) (l:List DV):runG D N S o w r f h (.tup l)=runO D N S r (putF f o.dst undefD) h:=rfl
variable (hs:List Heap) (L:DLog)
theorem runD_nil:runD D N S [] f (h::hs) L=ret D N S .normal f h:=rfl
theorem runD_step (dst:Option Nat) (op:DOp) (k:OKind) (s:Nat) (cm:Bool) (r:List DOper) (g:Option (Nat×Bool)) :
  runD D N S (⟨dst,op,g,k,s,cm⟩::r) f (h::hs) L=(match wantedD (tab N f) g with
   | none=>.fail
   | some true=>runDK D N S dst op s cm r f (h::hs) L k
   | some false=>runDN D N S dst k r f L (h::hs)):=by
 unfold runD
 simp only [runDraw]
 cases wantedD (tab N f) g with
 | none=>rfl
 | some t =>
  cases t with
  | false=>simp only [runDN,put_tab];rfl
  | true =>
   simp only [runDK]
   cases k with
   | read =>
    simp only
    by_cases hfr:L.free s (target (tab N f) op)=true
    ·simp only [if_pos hfr,runDH]
     cases snapAt (h::hs) s with
     | none=>rfl
     | some h0 =>
      simp only
      cases stepOp h0 (tab N f) op with
      | none=>rfl
      | some p=>simp only [runDR,put_tab];rfl
    ·simp only [if_neg hfr]
   | write =>
    simp only
    cases oneOp (fc D) op (tab N f) h with
    | none=>rfl
    | some p=>simp only [runDW,put_tab];rfl
   | create =>
    simp only [runDC]
    cases snapAt (h::hs) s with
    | none=>rfl
    | some h0 =>
     simp only
     cases createOp (fc D) h0.n hs.length L op (tab N f) h with
     | none=>rfl
     | some p=>simp only [runDX,put_tab];rfl
theorem runD_cons (dst:Option Nat) (op:DOp) (k:OKind) (s:Nat) (cm:Bool) (r:List DOper) :
  runD D N S (⟨dst,op,none,k,s,cm⟩::r) f (h::hs) L=runDK D N S dst op s cm r f (h::hs) L k:=by rw [runD_step];rfl
theorem runD_guard (dst:Option Nat) (op:DOp) (t:Nat) (w:Bool) (k:OKind) (s:Nat) (cm:Bool) (r:List DOper) :
  runD D N S (⟨dst,op,some (t,w),k,s,cm⟩::r) f (h::hs) L=runDG D N S ⟨dst,op,some (t,w),k,s,cm⟩ w r f (h::hs) L (rd N f t):=by
 rw [runD_step]
 simp only [wantedD,tab_get]
 unfold rd
 by_cases hlt:t<N
 ·simp only [if_pos hlt]
  cases hv:f t with
  | bool b =>
   simp only [runDG]
   by_cases e:b=w
   ·subst e;simp
   ·have:(b == w)=false:=by simpa using e
    simp only [this,if_neg e]
  | _=>rfl
 ·simp only [if_neg hlt];rfl
theorem runDG_bool (o:DOper) (w:Bool) (r:List DOper) (b:Bool):runDG D N S o w r f hs L (.bool b)=if b=w then runDK D N S o.dst o.op o.snap o.calm r f hs L o.kind else runDN D N S o.dst o.kind r f L hs:=rfl
theorem runDG_tup (o:DOper) (w:Bool) (r:List DOper) (l:List DV):runDG D N S o w r f hs L (.tup l)=runDN D N S o.dst o.kind r f L hs:=rfl
theorem runDN_read (dst:Option Nat) (r:List DOper):runDN D N S dst .read r f L (h::hs)=runD D N S r (putF f dst undefD) (h::hs) L:=rfl
theorem runDN_write (dst:Option Nat) (r:List DOper):runDN D N S dst .write r f L (h::hs)=runD D N S r (putF f dst undefD) (h::h::hs) L:=rfl
theorem runDN_create (dst:Option Nat) (r:List DOper):runDN D N S dst .create r f L (h::hs)=runD D N S r (putF f dst undefD) (h::h::hs) L:=rfl
theorem runDK_read (dst:Option Nat) (op:DOp) (s:Nat) (cm:Bool) (r:List DOper):runDK D N S dst op s cm r f hs L .read=if L.free s (target (tab N f) op)=true then runDH D N S dst op cm r f hs L (snapAt hs s) else .fail:=rfl
theorem runDK_write (dst:Option Nat) (op:DOp) (s:Nat) (cm:Bool) (r:List DOper):runDK D N S dst op s cm r f (h::hs) L .write=runDW D N S dst r f (h::hs) L (oneOp (fc D) op (tab N f) h):=rfl
theorem runDK_create (dst:Option Nat) (op:DOp) (s:Nat) (cm:Bool) (r:List DOper):runDK D N S dst op s cm r f (h::hs) L .create=runDC D N S dst op r f h hs L (snapAt (h::hs) s):=rfl
theorem runDH_some (dst:Option Nat) (op:DOp) (cm:Bool) (r:List DOper) (h0:Heap):runDH D N S dst op cm r f hs L (some h0)=runDR D N S dst r f hs (L.see cm (mark (tab N f) op)) (stepOp h0 (tab N f) op):=rfl
theorem runDC_some (dst:Option Nat) (op:DOp) (r:List DOper) (h0:Heap):runDC D N S dst op r f h hs L (some h0)=runDX D N S dst r f (h::hs) (createOp (fc D) h0.n hs.length L op (tab N f) h):=rfl
theorem runDR_some (dst:Option Nat) (r:List DOper) (v:DV):runDR D N S dst r f hs L (some (v,h))=runD D N S r (putF f dst v) hs L:=rfl
theorem runDW_some (dst:Option Nat) (r:List DOper) (v:DV):runDW D N S dst r f hs L (some (v,h))=runD D N S r (putF f dst v) (h::hs) L:=rfl
theorem runDX_some (dst:Option Nat) (r:List DOper) (v:DV):runDX D N S dst r f hs (some (v,h,L))=runD D N S r (putF f dst v) (h::hs) L:=rfl
theorem snapAt_eq (k:Nat):snapAt hs k=hs.reverse[k]?:=by
 unfold snapAt
 split
 ·rename_i hk;rw [List.getElem?_reverse hk]
 ·rename_i hk;rw [List.getElem?_eq_none (by simp;omega)]
theorem oneOp_call (g:Opd) (args:List Opd) (env:Env):oneOp (fc D) (.call g args) env h=callV D (args.map (Opd.eval env)) h (g.eval env):=by
 simp only [oneOp,callV]
 split<;>simp_all
theorem callV_func (as:List DV) (g:Nat) (cap:List DV):callV D as h (.func g cap)=fc D g (as++cap) h:=rfl
def fin (rs:List DRes):Res→Option (DV×Heap)
 | .ok (.exit _) _ _=>none
 | .ok _ env h'=>match resultsOf h' env rs with
  | some v=>some (v,h')
  | none=>none
 | .fail=>none
def finR (h:Heap):Option DV→Option (DV×Heap)
 | some v=>some (v,h)
 | none=>none
theorem fin_ret (rs:List DRes) (env:Env):fin rs (.ok .ret env h)=finR h (resultsOf h env rs):=by
 unfold fin finR;rfl
theorem fin_normal (rs:List DRes) (env:Env):fin rs (.ok .normal env h)=finR h (resultsOf h env rs):=by
 unfold fin finR;rfl
theorem finR_some (v:DV):finR h (some v)=some (v,h):=rfl
theorem goRun_eq (df:DFunc) (args:List DV) (hl:args.length≤df.ntmps):goRun (ev D) df args h=fin df.results (run D df.ntmps [] df.body (argF args) h):=by
 unfold goRun run
 rw [tab_args _ _ hl]
 cases ev D df.body (tab df.ntmps (argF args)) h with
 | fail=>rfl
 | ok e env h1=>cases e<;>rfl
theorem resultsOf_one (env:Env) (r:DRes):resultsOf h env [r]=resultOf h env r:=rfl
theorem resultOf_t (n:Nat):resultOf h (tab N f) (.t n)=some (rd N f n):=by simp only [resultOf,tab_getD]
theorem resultOf_cell (a:Nat) (n:Option Nat):resultOf h (tab N f) (.cell a n)=loadP h n (rd N f a):=by simp only [resultOf,tab_getD]
end
def heap0:Heap:={objs:=[],n:=0,lim:=0}
noncomputable def pcOut (o:Option (DV×Heap)):Option DV :=
 match o with
 | some (v,h')=>match resolve false h' deepFuel v with
  | some d=>if unlent deepFuel d then some d else none
  | none=>none
 | none=>none
noncomputable def pcF (D:DProg) (df:DFunc) (ds:List DV):Option DV:=pcOut (goRun (ev D) df ds heap0)
def callR (h:Heap):Option DV→Option (DV×Heap)
 | some d=>some (d,h)
 | none=>none
theorem callR_some (h:Heap) (d:DV):callR h (some d)=some (d,h):=rfl
noncomputable def callP (D:DProg) (df:DFunc) (h:Heap):Option (List DV)→Option (DV×Heap)
 | some ds=>callR h (pcF D df ds)
 | none=>none
theorem callP_some (D:DProg) (df:DFunc) (h:Heap) (ds:List DV):callP D df h (some ds)=callR h (pcF D df ds):=rfl
theorem fc_pure {D:DProg} {f:Nat} {df:DFunc} (hh:D.hook f=none) (hf:D.fn f=some df) (hm:df.mode=.pure) (args:List DV) (h:Heap) :
  fc D f args h=callP D df h (args.mapM (resolve true h deepFuel)):=by
 rw [fc_eq,hh,hf]
 simp only
 unfold modeRun
 rw [hm]
 simp only
 cases args.mapM (resolve true h deepFuel) with
 | none=>rfl
 | some ds =>
  simp only [callP,pcF,pcOut,heap0,callR]
  cases goRun (ev D) df ds {objs:=[],n:=0,lim:=0} with
  | none=>rfl
  | some p =>
   obtain ⟨v,h'⟩:=p
   simp only
   cases resolve false h' deepFuel v with
   | none=>rfl
   | some d =>
    simp only
    split<;>rfl
noncomputable def callZ (D:DProg) (df:DFunc):Option (List DV×Heap)→Option (DV×Heap)
 | some (as,h)=>callP D df h (as.mapM (resolve true h deepFuel))
 | none=>none
theorem callZ_some (D:DProg) (df:DFunc) (as:List DV) (h:Heap):callZ D df (some (as,h))=callP D df h (as.mapM (resolve true h deepFuel)):=rfl
theorem fc_full {D:DProg} {f:Nat} {df:DFunc} (hh:D.hook f=none) (hf:D.fn f=some df) (hm:df.mode=.full) (args:List DV) (h:Heap) :
  fc D f args h=goRun (ev D) df args h:=by
 rw [fc_eq,hh,hf]
 simp only
 unfold modeRun
 rw [hm]
end Go.Dm
/-
Part 1 of "De": equations by which 'simp' runs the machine's code over data that are partly unknown.
-/
namespace Go.Dm
def WF (h:Heap):Prop:=h.objs.length=h.n
theorem wf_heap0:WF heap0:=rfl
theorem WF.push {h:Heap} {o:DO} (w:WF h):WF (h.push o):=by unfold WF at *;simp [Heap.push,w]
theorem WF.set {h:Heap} {id:Nat} {o:DO} (w:WF h):WF (h.set id o):=by unfold WF at *;simp [Heap.set,w]
theorem WF.lim {h:Heap} {l:Nat} (w:WF h):WF {h with lim:=l}:=w
theorem push_set_old {h:Heap} {o o':DO} {id:Nat} (hid:id<h.n):(h.push o).set id o'=(h.set id o').push o:=by
 have e:h.n-id=(h.n-1-id)+1:=by omega
 simp [Heap.push,Heap.set]
 rw [e];rfl
theorem push_set_if {h:Heap} {o o':DO} {id:Nat}:(h.push o).set id o'=if id<h.n then (h.set id o').push o else h.push o':=by
 split
 ·rename_i hid;exact push_set_old hid
 ·rename_i hid
  have e:h.n-id=0:=by omega
  simp [Heap.push,Heap.set]
  rw [e];rfl
theorem get_set {h:Heap} (w:WF h) {id k:Nat} {o:DO} (hid:id<h.n):(h.set id o).get k=if k=id then some o else h.get k:=by
 unfold WF at w
 by_cases e:k=id
 ·subst e
  rw [if_pos rfl]
  simp only [Heap.get,Heap.set,if_pos hid]
  rw [List.getElem?_set,if_pos rfl,if_pos (by omega)]
  exact if_pos hid
 ·rw [if_neg e];exact get_set_other hid e
theorem get_some_lt {h:Heap} {id:Nat} {o:DO} (hg:h.get id=some o):id<h.n:=get_lt hg
def pickV (c a b:DV):Option DV:=match c with|.bool t=>some (if t then a else b)|_=>none
theorem pickV_bool (t:Bool) (a b:DV):pickV (.bool t) a b=some (if t then a else b):=rfl
def nilCheckV:DV→Option DV
 | .ptr id sz idx off=>some (.ptr id sz idx off)
 | .iptr l cs off=>some (.iptr l cs off)
 | _=>none
theorem nilCheckV_ptr (id sz idx off:Nat):nilCheckV (.ptr id sz idx off)=some (.ptr id sz idx off):=rfl
theorem nilCheckV_iptr (l:Bool) (cs:List DV) (off:Nat):nilCheckV (.iptr l cs off)=some (.iptr l cs off):=rfl
def eqbV (neq:Bool):DV→DV→Option DV
 | .bool a,.bool b=>some (.bool (if neq then !(a == b) else a == b))
 | _,_=>none
theorem eqbV_bool (neq a b:Bool):eqbV neq (.bool a) (.bool b)=some (.bool (if neq then !(a == b) else a == b)):=rfl
def flipV (neq:Bool):Option Bool→Option DV
 | some r=>some (.bool (if neq then !r else r))
 | none=>none
theorem flipV_some (neq r:Bool):flipV neq (some r)=some (.bool (if neq then !r else r)):=rfl
def convV (k:IntKind):DV→Option DV|.int _ n=>some (.int k (k.wrap n))|_=>none
theorem convV_int (k k':IntKind) (n:Int):convV k (.int k' n)=some (.int k (k.wrap n)):=rfl
def asStrV:DV→Option DV|.str s=>some (.str s)|_=>none
theorem asStrV_str (s:List UInt8):asStrV (.str s)=some (.str s):=rfl
def fieldAddrV (off:Nat):DV→Option DV
 | .ptr id sz idx o=>some (.ptr id sz idx (o+off))
 | .iptr l cs o=>some (.iptr l cs (o+off))
 | _=>none
theorem fieldAddrV_ptr (off id sz idx o:Nat):fieldAddrV off (.ptr id sz idx o)=some (.ptr id sz idx (o+off)):=rfl
theorem fieldAddrV_iptr (off:Nat) (l:Bool) (cs:List DV) (o:Nat):fieldAddrV off (.iptr l cs o)=some (.iptr l cs (o+off)):=rfl
def fieldV (off:Nat) (n:Option Nat):DV→Option DV|.agg cs=>pickCells n cs off|_=>none
theorem fieldV_agg (off:Nat) (n:Option Nat) (cs:List DV):fieldV off n (.agg cs)=pickCells n cs off:=rfl
def indexAddrV (sz:Nat) (x i:DV):Option DV :=
 match asI i with
 | some i =>
  match x with
  | .sl id sz' off len=>if sz=sz'∧0≤i∧i<(len:Int) then some (.ptr id sz (off+i.toNat) 0) else none
  | .isl l sz' xs=>if sz=sz'∧0≤i then (match xs[i.toNat]? with|some e=>some (.iptr l (ecells sz e) 0)|none=>none) else none
  | _=>none
 | none=>none
def indexArrV (len esz:Nat) (x i:DV):Option DV :=
 match asI i with
 | some i =>
  if 0≤i∧i<(len:Int) then
   match x with
   | .ptr id sz idx o=>some (.ptr id sz idx (o+i.toNat*esz))
   | .iptr l cs o=>some (.iptr l cs (o+i.toNat*esz))
   | _=>none
  else none
 | none=>none
def indexV (len esz:Nat) (n:Option Nat) (x i:DV):Option DV :=
 match asI i,x with
 | some i,.agg cs=>if 0≤i∧i<(len:Int) then pickCells n cs (i.toNat*esz) else none
 | _,_=>none
def indexStrV (x i:DV):Option DV :=
 match asI i,x with
 | some i,.str s=>if 0≤i then (match s[i.toNat]? with|some b=>some (.int .u8 b.toNat)|none=>none) else none
 | _,_=>none
def boundV (o:Option DV) (dflt lim:Nat):Option Nat :=
 match o with
 | none=>some dflt
 | some x=>match asI x with
  | some n=>if 0≤n∧n≤(lim:Int) then some n.toNat else none
  | none=>none
theorem bound_eq (env:Env) (o:Option Opd) (d l:Nat):bound env o d l=boundV (o.map (Opd.eval env)) d l:=by
 cases o<;>rfl
theorem boundV_none (d l:Nat):boundV none d l=some d:=rfl
theorem boundV_int (k:IntKind) (n:Int) (d l:Nat) (h0:0≤n) (h1:n≤(l:Int)):boundV (some (.int k n)) d l=some n.toNat:=by
 simp [boundV,asI,h0,h1]
def sliceStrV (x:DV) (lo hi:Option DV):Option DV :=
 match x with
 | .str s=>match boundV hi s.length s.length with
  | some b=>match boundV lo 0 b with
   | some a=>some (.str ((s.drop a).take (b-a)))
   | none=>none
  | none=>none
 | _=>none
def sliceV (h:Heap) (sz:Nat) (x:DV) (lo hi:Option DV):Option DV :=
 match x with
 | .nsl=>match boundV hi 0 0 with
  | some b=>match boundV lo 0 b with
   | some _=>some .nsl
   | none=>none
  | none=>none
 | .isl l sz' xs=>if sz=sz'∨xs=[] then match boundV hi xs.length xs.length with
   | some b=>match boundV lo 0 b with
    | some a=>some (.isl l sz ((xs.drop a).take (b-a)))
    | none=>none
   | none=>none
  else none
 | .sl id sz' off len=>match h.get id with
  | some (.arr _ sz'' xs _)=>if sz=sz'∧sz=sz''∧off+len≤xs.length then match boundV hi len (xs.length-off) with
    | some b=>match boundV lo 0 b with
     | some a=>some (.sl id sz (off+a) (b-a))
     | none=>none
    | none=>none
   else none
  | _=>none
 | _=>none
def lenV (h:Heap) (k:Nat):DV→Option DV
 | .str s=>if k=0 then some (.int .i64 s.length) else none
 | .nsl=>if k=1 then some (.int .i64 0) else none
 | .sl _ _ _ len=>if k=1 then some (.int .i64 len) else none
 | .isl _ _ xs=>if k=1 then some (.int .i64 xs.length) else none
 | .nmap=>if k=2 then some (.int .i64 0) else none
 | .map id=>match h.get id with|some (.mp es)=>if k=2 then some (.int .i64 es.length) else none|_=>none
 | _=>none
theorem lenV_str (h:Heap) (s:List UInt8):lenV h 0 (.str s)=some (.int .i64 s.length):=rfl
theorem lenV_nsl (h:Heap):lenV h 1 .nsl=some (.int .i64 0):=rfl
theorem lenV_sl (h:Heap) (id sz off len:Nat):lenV h 1 (.sl id sz off len)=some (.int .i64 len):=rfl
theorem lenV_isl (h:Heap) (t:Bool) (sz:Nat) (xs:List DV):lenV h 1 (.isl t sz xs)=some (.int .i64 xs.length):=rfl
def appendV (h:Heap) (ety sz bytes:Nat) (s:DV):Option (List DV)→Option (DV×Heap)
 | some ys=>appendD h ety sz bytes s ys
 | none=>none
theorem appendV_some (h:Heap) (ety sz bytes:Nat) (s:DV) (ys:List DV):appendV h ety sz bytes s (some ys)=appendD h ety sz bytes s ys:=rfl
def copyV (h:Heap) (sz:Nat) (d:DV):Option (List DV)→Option (DV×Heap)
 | some ys=>copyD h sz d ys
 | none=>none
theorem copyV_some (h:Heap) (sz:Nat) (d:DV) (ys:List DV):copyV h sz d (some ys)=copyD h sz d ys:=rfl
def minmaxV (mx:Bool):DV→DV→Option DV
 | .int k a,.int _ b=>some (.int k (if mx then (if a<b then b else a) else (if b<a then b else a)))
 | _,_=>none
theorem minmaxV_int (mx:Bool) (k k':IntKind) (a b:Int):minmaxV mx (.int k a) (.int k' b)=some (.int k (if mx then (if a<b then b else a) else (if b<a then b else a))):=rfl
def extractV (i:Nat):DV→Option DV|.tup vs=>vs[i]?|_=>none
theorem extractV_tup (i:Nat) (vs:List DV):extractV i (.tup vs)=vs[i]?:=rfl
def storeV:Option Heap→Option (DV×Heap)
 | some h=>some (.tup [],h)
 | none=>none
theorem storeV_some (h:Heap):storeV (some h)=some (.tup [],h):=rfl
def boxV (h:Heap) (ety sz:Nat) (x:DV):Option (DV×Heap):=if storable sz x then some (.ptr h.n sz 0 0,h.push (.arr ety sz [x] (some 1))) else none
theorem boxV_ok {h:Heap} {ety sz:Nat} {x:DV} (hs:storable sz x=true):boxV h ety sz x=some (.ptr h.n sz 0 0,h.push (.arr ety sz [x] (some 1))):=if_pos hs
def aggV (h:Heap):Option (List DV)→Option (DV×Heap)
 | some cs=>some (.agg cs,h)
 | none=>none
theorem aggV_some (h:Heap) (cs:List DV):aggV h (some cs)=some (.agg cs,h):=rfl
def sliceOfV (h:Heap) (ety sz len:Nat):Option (List DV)→Option (DV×Heap)
 | some xs=>some (.sl h.n sz 0 len,h.push (.arr ety sz xs (some len)))
 | none=>none
theorem sliceOfV_some (h:Heap) (ety sz len:Nat) (xs:List DV):sliceOfV h ety sz len (some xs)=some (.sl h.n sz 0 len,h.push (.arr ety sz xs (some len))):=rfl
section
variable (h:Heap) (env:Env)
theorem st_move (x:Opd):stepOp h env (.move x)=some (x.eval env,h):=rfl
theorem st_pick (c a b:Opd):stepOp h env (.pick c a b)=callR h (pickV (c.eval env) (a.eval env) (b.eval env)):=by simp only [stepOp];cases c.eval env<;>rfl
theorem st_alloc (ety sz:Nat) (z:DV):stepOp h env (.alloc ety sz z)=some (.ptr h.n sz 0 0,h.push (.arr ety sz [z] (some 1))):=rfl
theorem st_box (ety sz:Nat) (x:Opd):stepOp h env (.box ety sz x)=boxV h ety sz (x.eval env):=rfl
theorem st_build (zero:List DV) (parts:List (Nat×Nat×Opd)):stepOp h env (.build zero parts)=aggV h (fillCells zero (parts.map fun p=>(p.1,p.2.1,p.2.2.eval env))):=by
 simp only [stepOp];cases fillCells zero (parts.map fun p=>(p.1,p.2.1,p.2.2.eval env))<;>rfl
theorem st_buildSlice (ety sz:Nat) (z:DV) (len:Nat) (parts:List (Nat×Opd)):stepOp h env (.buildSlice ety sz z len parts)=sliceOfV h ety sz len (fillElems sz (List.replicate len z) (parts.map fun p=>(p.1,p.2.eval env))):=by
 simp only [stepOp];cases fillElems sz (List.replicate len z) (parts.map fun p=>(p.1,p.2.eval env))<;>rfl
theorem st_load (n:Option Nat) (a:Opd):stepOp h env (.load n a)=callR h (loadP h n (a.eval env)):=by simp only [stepOp];cases loadP h n (a.eval env)<;>rfl
theorem st_store (n:Nat) (a x:Opd):stepOp h env (.store n a x)=storeV (storeP h n (a.eval env) (x.eval env)):=by simp only [stepOp];cases storeP h n (a.eval env) (x.eval env)<;>rfl
theorem st_nilCheck (x:Opd):stepOp h env (.nilCheck x)=callR h (nilCheckV (x.eval env)):=by simp only [stepOp];cases x.eval env<;>rfl
theorem st_arith (op:BinOp) (x y:Opd):stepOp h env (.arith op x y)=callR h (arithD op (x.eval env) (y.eval env)):=by simp only [stepOp];cases arithD op (x.eval env) (y.eval env)<;>rfl
theorem st_eqb (neq:Bool) (x y:Opd):stepOp h env (.eqb neq x y)=callR h (eqbV neq (x.eval env) (y.eval env)):=by simp only [stepOp];cases x.eval env<;>cases y.eval env<;>rfl
theorem st_eqa (neq:Bool) (ks:List Nat) (x y:Opd):stepOp h env (.eqa neq ks x y)=callR h (flipV neq (eqBy (.agg ks) (x.eval env) (y.eval env))):=by simp only [stepOp];cases eqBy (.agg ks) (x.eval env) (y.eval env)<;>rfl
theorem st_eqn (k:Nat) (neq:Bool) (x y:Opd):stepOp h env (.eqn k neq x y)=callR h (flipV neq (nilEq k (x.eval env) (y.eval env))):=by simp only [stepOp];cases nilEq k (x.eval env) (y.eval env)<;>rfl
theorem st_un (op:UnOp) (x:Opd):stepOp h env (.un op x)=callR h (unD op (x.eval env)):=by simp only [stepOp];cases unD op (x.eval env)<;>rfl
theorem st_conv (k:IntKind) (x:Opd):stepOp h env (.conv k x)=callR h (convV k (x.eval env)):=by simp only [stepOp];cases x.eval env<;>rfl
theorem st_asStr (x:Opd):stepOp h env (.asStr x)=callR h (asStrV (x.eval env)):=by simp only [stepOp];cases x.eval env<;>rfl
theorem st_fieldAddr (off:Nat) (x:Opd):stepOp h env (.fieldAddr off x)=callR h (fieldAddrV off (x.eval env)):=by simp only [stepOp];cases x.eval env<;>rfl
theorem st_field (off:Nat) (n:Option Nat) (x:Opd):stepOp h env (.field off n x)=callR h (fieldV off n (x.eval env)):=by
 simp only [stepOp]
 cases x.eval env with
 | agg cs=>simp only [fieldV];cases pickCells n cs off<;>rfl
 | _=>rfl
theorem st_indexAddr (sz:Nat) (x i:Opd):stepOp h env (.indexAddr sz x i)=callR h (indexAddrV sz (x.eval env) (i.eval env)):=by
 simp only [stepOp,indexAddrV]
 cases asI (i.eval env) with
 | none=>rfl
 | some n =>
  simp only
  cases x.eval env with
  | sl id sz' off len=>simp only;split<;>rfl
  | isl l sz' xs =>
   simp only
   split
   ·cases xs[n.toNat]?<;>rfl
   ·rfl
  | _=>rfl
theorem st_indexArr (len esz:Nat) (x i:Opd):stepOp h env (.indexArr len esz x i)=callR h (indexArrV len esz (x.eval env) (i.eval env)):=by
 simp only [stepOp,indexArrV]
 cases asI (i.eval env) with
 | none=>rfl
 | some n =>
  simp only
  split
  ·cases x.eval env<;>rfl
  ·rfl
theorem st_index (len esz:Nat) (n:Option Nat) (x i:Opd):stepOp h env (.index len esz n x i)=callR h (indexV len esz n (x.eval env) (i.eval env)):=by
 simp only [stepOp,indexV]
 cases asI (i.eval env) with
 | none=>rfl
 | some m =>
  cases x.eval env with
  | agg cs =>
   simp only
   split
   ·cases pickCells n cs (m.toNat*esz)<;>rfl
   ·rfl
  | _=>rfl
theorem st_indexStr (x i:Opd):stepOp h env (.indexStr x i)=callR h (indexStrV (x.eval env) (i.eval env)):=by
 simp only [stepOp,indexStrV]
 cases asI (i.eval env) with
 | none=>rfl
 | some m =>
  cases x.eval env with
  | str s =>
   simp only
   split
   ·cases s[m.toNat]?<;>rfl
   ·rfl
  | _=>rfl
theorem st_sliceStr (x:Opd) (lo hi:Option Opd):stepOp h env (.sliceStr x lo hi)=callR h (sliceStrV (x.eval env) (lo.map (Opd.eval env)) (hi.map (Opd.eval env))):=by
 simp only [stepOp,sliceStrV,bound_eq]
 cases x.eval env with
 | str s =>
  simp only
  cases boundV (hi.map (Opd.eval env)) s.length s.length with
  | none=>rfl
  | some b=>simp only;cases boundV (lo.map (Opd.eval env)) 0 b<;>rfl
 | _=>rfl
theorem st_sliceSl (sz:Nat) (x:Opd) (lo hi:Option Opd):stepOp h env (.sliceSl sz x lo hi)=callR h (sliceV h sz (x.eval env) (lo.map (Opd.eval env)) (hi.map (Opd.eval env))):=by
 simp only [stepOp,sliceV,bound_eq]
 cases x.eval env with
 | nsl =>
  simp only
  cases boundV (hi.map (Opd.eval env)) 0 0 with
  | none=>rfl
  | some b=>simp only;cases boundV (lo.map (Opd.eval env)) 0 b<;>rfl
 | isl l sz' xs =>
  simp only
  split
  ·cases boundV (hi.map (Opd.eval env)) xs.length xs.length with
   | none=>rfl
   | some b=>simp only;cases boundV (lo.map (Opd.eval env)) 0 b<;>rfl
  ·rfl
 | sl id sz' off len =>
  simp only
  cases h.get id with
  | none=>rfl
  | some o =>
   cases o with
   | arr e s xs c =>
    simp only
    split
    ·cases boundV (hi.map (Opd.eval env)) len (xs.length-off) with
     | none=>rfl
     | some b=>simp only;cases boundV (lo.map (Opd.eval env)) 0 b<;>rfl
    ·rfl
   | _=>rfl
 | _=>rfl
theorem st_len (k:Nat) (x:Opd):stepOp h env (.len k x)=callR h (lenV h k (x.eval env)):=by
 simp only [stepOp,lenV]
 cases x.eval env with
 | map id =>
  simp only
  cases h.get id with
  | none=>rfl
  | some o=>cases o<;>simp only<;>first|rfl|(split<;>rfl)
 | _=>first|rfl|(simp only;split<;>rfl)
theorem st_append (ety sz bytes:Nat) (s x:Opd):stepOp h env (.append ety sz bytes s x)=appendV h ety sz bytes (s.eval env) (elems h sz (x.eval env)):=by
 simp only [stepOp];cases elems h sz (x.eval env)<;>rfl
theorem st_copy (sz:Nat) (d s:Opd):stepOp h env (.copy sz d s)=copyV h sz (d.eval env) (elems h sz (s.eval env)):=by
 simp only [stepOp];cases elems h sz (s.eval env)<;>rfl
theorem st_minmax (mx:Bool) (x y:Opd):stepOp h env (.minmax mx x y)=callR h (minmaxV mx (x.eval env) (y.eval env)):=by
 simp only [stepOp];cases x.eval env<;>cases y.eval env<;>rfl
theorem st_makeFunc (f:FuncId) (cap:List Opd):stepOp h env (.makeFunc f cap)=some (.func f (cap.map (Opd.eval env)),h):=rfl
theorem st_makeMap:stepOp h env .makeMap=some (.map h.n,h.push (.mp [])):=rfl
theorem st_extract (x:Opd) (i:Nat):stepOp h env (.extract x i)=callR h (extractV i (x.eval env)):=by
 simp only [stepOp]
 cases x.eval env with
 | tup vs=>simp only [extractV];cases vs[i]?<;>rfl
 | _=>rfl
theorem st_makeIface (t:TypeId) (x:Opd):stepOp h env (.makeIface t x)=some (.iface t (x.eval env),h):=rfl
end
def entriesV (h:Heap):DV→Option (List (DV×DV))
 | .nmap=>some []
 | .map id=>match h.get id with|some (.mp es)=>some es|_=>none
 | _=>none
def lookupV (q:EqT) (z:DV) (ok:Bool) (k:DV):Option (List (DV×DV))→Option DV
 | some es=>if (eqBy q k k).isSome then
   match findU q k es with
   | some (some (_,v))=>some (if ok then .tup [v,.bool true] else v)
   | some none=>some (if ok then .tup [z,.bool false] else z)
   | none=>none
  else none
 | none=>none
theorem st_lookup (h:Heap) (env:Env) (q:EqT) (z:DV) (ok:Bool) (m k:Opd):stepOp h env (.lookup q z ok m k)=callR h (lookupV q z ok (k.eval env) (entriesV h (m.eval env))):=by
 have key:∀r:Option (List (DV×DV)),(match r with
   | some es=>if (eqBy q (k.eval env) (k.eval env)).isSome then
     match findU q (k.eval env) es with
     | some (some (_,v))=>some (if ok then DV.tup [v,.bool true] else v,h)
     | some none=>some (if ok then DV.tup [z,.bool false] else z,h)
     | none=>none
    else none
   | none=>none)=callR h (lookupV q z ok (k.eval env) r):=by
  intro r
  cases r with
  | none=>rfl
  | some es =>
   simp only [lookupV]
   split
   ·cases findU q (k.eval env) es with
    | none=>rfl
    | some x=>cases x<;>rfl
   ·rfl
 simp only [stepOp]
 rw [←key]
 cases m.eval env with
 | map id=>simp only [entriesV];cases h.get id with
  | none=>rfl
  | some o=>cases o<;>rfl
 | _=>rfl
def updateV (h:Heap) (q:EqT) (m k x:DV):Option Heap :=
 match m with
 | .map id=>match h.get id with
  | some (.mp es) =>
   if h.lim≤id∧(eqBy q k k).isSome=true then
    match findU q k es with
    | some (some (i,_))=>some (h.set id (.mp (es.set i (k,x))))
    | some none=>some (h.set id (.mp (es++[(k,x)])))
    | none=>none
   else none
  | _=>none
 | _=>none
theorem st_mapUpdate (h:Heap) (env:Env) (q:EqT) (m k x:Opd):stepOp h env (.mapUpdate q m k x)=storeV (updateV h q (m.eval env) (k.eval env) (x.eval env)):=by
 simp only [stepOp,updateV]
 cases m.eval env with
 | map id =>
  simp only
  cases h.get id with
  | none=>rfl
  | some o =>
   cases o with
   | mp es =>
    simp only
    split
    ·cases findU q (k.eval env) es with
     | none=>rfl
     | some y=>cases y with
      | none=>rfl
      | some p=>rfl
    ·rfl
   | _=>rfl
 | _=>rfl
section
variable (c:Nat→List DV→Heap→Option (DV×Heap)) (h:Heap) (env:Env)
end
theorem wrap64 {n:Int} (h1:-9223372036854775808≤n) (h2:n≤9223372036854775807):IntKind.i64.wrap n=n:=by
 exact Go.IntWalk.i64_in n ⟨h1,h2⟩
end Go.Dm
/-
Part 2 of "De": rows of data that are plain lists; rows that a call makes itself; what calls answer.
-/
namespace Go.Dm
def eL {α:Type} (t:Bool) (sz:Nat) (e:α→DV) (xs:List α):DV:=mkIsl t sz (xs.map e)
section eL
variable {α:Type} (t:Bool) (sz:Nat) (e:α→DV) (xs:List α)
theorem eL_nil:eL t sz e []=.isl false 0 []:=rfl
theorem eL_cons (x:α):eL t sz e (x::xs)=.isl t sz (e x::xs.map e):=rfl
theorem eL_ne {xs:List α} (h:xs≠[]):eL t sz e xs=.isl t sz (xs.map e):=by
 cases xs with
 | nil=>exact absurd rfl h
 | cons x xs=>rfl
theorem lenV_eL (h:Heap):lenV h 1 (eL t sz e xs)=some (.int .i64 xs.length):=by cases xs<;>simp [eL_nil,eL_cons,lenV]
theorem storable_eL:storable 1 (eL t sz e xs)=true:=by cases xs<;>rfl
theorem ecells_eL:ecells 1 (eL t sz e xs)=[eL t sz e xs]:=by cases xs<;>rfl
theorem elems_eL (h:Heap):elems h sz (eL t sz e xs)=some (xs.map e):=by cases xs<;>simp [eL_nil,eL_cons,elems]
theorem indexAddrV_eL {xs:List α} (k:IntKind) {i:Nat} {a:α} (ha:xs[i]?=some a):indexAddrV sz (eL t sz e xs) (.int k (i:Int))=some (.iptr t (ecells sz (e a)) 0):=by
 have hne:xs≠[]:=by intro h0;subst h0;simp at ha
 rw [eL_ne t sz e hne]
 simp [indexAddrV,asI,ha]
theorem indexAddrV_eL' {xs:List α} (k:IntKind) {i:Int} {a:α} (h0:0≤i) (ha:xs[i.toNat]?=some a):indexAddrV sz (eL t sz e xs) (.int k i)=some (.iptr t (ecells sz (e a)) 0):=by
 obtain ⟨n,rfl⟩:=Int.eq_ofNat_of_zero_le h0
 exact indexAddrV_eL t sz e k ha
end eL
def Flat (k:Nat) (d:DV):Prop:=∀tag h n,k≤n→resolve tag h n d=some d
def Unl (k:Nat) (d:DV):Prop:=∀n,k≤n→unlent n d=true
theorem Flat.mono {k m:Nat} {d:DV} (h:Flat k d) (hk:k≤m):Flat m d:=fun t hp n hn=>h t hp n (Nat.le_trans hk hn)
theorem Unl.mono {k m:Nat} {d:DV} (h:Unl k d) (hk:k≤m):Unl m d:=fun n hn=>h n (Nat.le_trans hk hn)
theorem pos_of_le {k n:Nat} (h:k+1≤n):∃ m,n=m+1∧k≤m:=⟨n-1,by omega,by omega⟩
theorem flat_int (k:IntKind) (n:Int):Flat 1 (.int k n):=fun t h m hm=>by obtain ⟨q,rfl,_⟩:=pos_of_le hm;rfl
theorem flat_bool (b:Bool):Flat 1 (.bool b):=fun t h m hm=>by obtain ⟨q,rfl,_⟩:=pos_of_le hm;rfl
theorem flat_str (s:List UInt8):Flat 1 (.str s):=fun t h m hm=>by obtain ⟨q,rfl,_⟩:=pos_of_le hm;rfl
theorem flat_eL {α:Type} (t:Bool) (sz:Nat) (e:α→DV) (xs:List α):Flat 1 (eL t sz e xs):=fun tg h m hm=>by
 obtain ⟨q,rfl,_⟩:=pos_of_le hm
 cases xs<;>rfl
theorem mapM_self {f:DV→Option DV}:∀{cs:List DV},(∀x∈cs,f x=some x)→cs.mapM f=some cs:=by
 intro cs
 induction cs with
 | nil=>intro _;rfl
 | cons x r ih =>
  intro h
  rw [List.mapM_cons,h x (List.mem_cons_self ..),ih (fun y hy=>h y (List.mem_cons_of_mem _ hy))];rfl
theorem flat_agg {k:Nat} {cs:List DV} (h:∀x∈cs,Flat k x):Flat (k+1) (.agg cs):=fun t hp m hm=>by
 obtain ⟨q,rfl,hq⟩:=pos_of_le hm
 have:cs.mapM (resolve t hp q)=some cs:=mapM_self fun x hx=>h x hx t hp q hq
 simp only [resolve,this]
theorem unl_int (k:IntKind) (n:Int):Unl 1 (.int k n):=fun m hm=>by obtain ⟨q,rfl,_⟩:=pos_of_le hm;rfl
theorem unl_bool (b:Bool):Unl 1 (.bool b):=fun m hm=>by obtain ⟨q,rfl,_⟩:=pos_of_le hm;rfl
theorem unl_str (s:List UInt8):Unl 1 (.str s):=fun m hm=>by obtain ⟨q,rfl,_⟩:=pos_of_le hm;rfl
theorem unl_agg {k:Nat} {cs:List DV} (h:∀x∈cs,Unl k x):Unl (k+1) (.agg cs):=fun m hm=>by
 obtain ⟨q,rfl,hq⟩:=pos_of_le hm
 simp only [unlent,List.all_eq_true]
 exact fun x hx=>h x hx q hq
theorem unl_eL {α:Type} {k sz:Nat} {e:α→DV} {xs:List α} (h:∀x∈xs,Unl k (e x)):Unl (k+1) (eL false sz e xs):=fun m hm=>by
 obtain ⟨q,rfl,hq⟩:=pos_of_le hm
 cases xs with
 | nil=>rfl
 | cons x r =>
  simp only [eL_cons,unlent,Bool.not_false,Bool.true_and,List.all_eq_true]
  intro y hy
  rw [←List.map_cons (f:=e)]at hy
  obtain ⟨z,hz,rfl⟩:=List.mem_map.1 hy
  exact h z hz q hq
class Plain {α:Type} (e:α→DV):Prop where
 flat:∀x,Flat 20 (e x)
 unl:∀x,Unl 20 (e x)
inductive Own (lo:Nat) (h:Heap) (v:DV) (ety sz:Nat) (xs:List DV):Prop where
 | nil (hv:v=.nsl) (hx:xs=[])
 | arr (id:Nat) (hv:v=.sl id sz 0 xs.length) (hg:h.get id=some (.arr ety sz xs none)) (hlim:h.lim≤id) (hlo:lo≤id)
structure Ext (lo:Nat) (h h':Heap):Prop where
 le:lo≤h'.n
 lim:h'.lim=h.lim
 get:∀id,id<lo→h'.get id=h.get id
 wf:WF h'
theorem Ext.refl {lo:Nat} {h:Heap} (hle:lo≤h.n) (w:WF h):Ext lo h h:=⟨hle,rfl,fun _ _=>rfl,w⟩
theorem Ext.trans {lo:Nat} {a b c:Heap} (x:Ext lo a b) (y:Ext lo b c):Ext lo a c:=⟨y.le,y.lim.trans x.lim,fun id hid=>(y.get id hid).trans (x.get id hid),y.wf⟩
theorem Ext.push {lo:Nat} {h h':Heap} {o:DO} (x:Ext lo h h'):Ext lo h (h'.push o) :=
 ⟨Nat.le_succ_of_le x.le,x.lim,fun id hid=>by rw [get_push,if_neg (by have:=x.le;omega)];exact x.get id hid,x.wf.push⟩
theorem Ext.set {lo:Nat} {h h':Heap} {id:Nat} {o:DO} (x:Ext lo h h') (hid:lo≤id) (hlt:id<h'.n):Ext lo h (h'.set id o) :=
 ⟨x.le,x.lim,fun k hk=>by rw [get_set x.wf hlt,if_neg (by omega)];exact x.get k hk,x.wf.set⟩
theorem Own.push {lo:Nat} {h:Heap} {o:DO} {v:DV} {ety sz:Nat} {xs:List DV} (w:Own lo h v ety sz xs):Own lo (h.push o) v ety sz xs:=by
 cases w with
 | nil hv hx=>exact .nil hv hx
 | arr id hv hg hlim hlo =>
  refine .arr id hv ?_ hlim hlo
  rw [get_push,if_neg (by have:=get_some_lt hg;omega)];exact hg
theorem Own.start (lo:Nat) (h:Heap) (ety sz:Nat):Own lo h .nsl ety sz []:=.nil rfl rfl
theorem Own.append {lo:Nat} {h:Heap} {v:DV} {ety sz bytes:Nat} {xs ys:List DV} {A:Option (DV×Heap)} (w:Own lo h v ety sz xs) (wf:WF h) (hlo:lo≤h.n) (hlim:h.lim≤h.n) (hA:appendD h ety sz bytes v ys=A)
  (hb:(xs.length+ys.length)*bytes≤140737488355328) (hb1:1≤bytes):∃ v' h',A=some (v',h')∧Own lo h' v' ety sz (xs++ys)∧Ext lo h h':=by
 have hm:xs.length+ys.length≤140737488355328:=Nat.le_trans (Nat.le_mul_of_pos_right _ hb1) hb
 by_cases hy:ys=[]
 ·subst hy
  refine ⟨v,h,?_,by simpa using w,.refl hlo wf⟩
  rw [←hA]
  cases w with
  | nil hv hx=>subst hv;rfl
  | arr id hv hg _ _=>subst hv;rfl
 ·have hye:ys.isEmpty=false:=by cases ys<;>simp_all
  have hyl:0<ys.length:=List.length_pos_iff.2 hy
  cases w with
  | nil hv hx =>
   subst hv;subst hx
   simp only [List.length_nil,Nat.zero_add]at hb hm
   refine ⟨.sl h.n sz 0 ys.length,h.push (.arr ety sz ys none),?_,.arr h.n rfl get_push_new (by exact hlim) hlo,(Ext.refl hlo wf).push⟩
   rw [←hA]
   simp only [appendD,hye]
   rw [if_neg (by simp),if_pos ⟨hb,by omega⟩]
  | arr id hv hg hl hi =>
   subst hv
   have hlt:=get_some_lt hg
   have e2:(h.set id DO.dead).n=h.n:=rfl
   refine ⟨.sl h.n sz 0 (xs.length+ys.length),(h.set id .dead).push (.arr ety sz (xs++ys) none),?_,.arr h.n (by simp) ?_ (by exact hlim) hlo,(((Ext.refl hlo wf).set hi hlt).push)⟩
   ·rw [←hA]
    simp only [appendD,hye,hg]
    simp only [Bool.false_eq_true,if_false,true_and,Nat.zero_add,Nat.le_refl]
    rw [if_pos ⟨hb,by omega⟩,if_neg (by omega),if_pos hl]
    simp
   ·exact get_push_new
end Go.Dm
/-
Part 3 of "De": what own rows show; what a pure call hands back; the program's data by plain structures.
-/
namespace Go.Dm
section Own
variable {lo:Nat} {h:Heap} {v:DV} {ety sz:Nat} {xs:List DV}
theorem Own.lenV (w:Own lo h v ety sz xs):lenV h 1 v=some (.int .i64 xs.length):=by
 cases w with
 | nil hv hx=>subst hv;subst hx;rfl
 | arr id hv hg hl hi=>subst hv;rfl
theorem Own.elems (w:Own lo h v ety sz xs):elems h sz v=some xs:=by
 cases w with
 | nil hv hx=>subst hv;subst hx;rfl
 | arr id hv hg hl hi=>subst hv;simp [Dm.elems,hg]
theorem Own.ext {lo:Nat} {h h':Heap} (w:Own lo h v ety sz xs) (x:Ext h.n h h'):Own lo h' v ety sz xs:=by
 cases w with
 | nil hv hx=>exact .nil hv hx
 | arr id hv hg hl hi=>exact .arr id hv ((x.get id (get_some_lt hg)).trans hg) (by rw [x.lim];exact hl) hi
theorem Own.resolve {α:Type} {e:α→DV} {ys:List α} {k n:Nat} (tag:Bool) (w:Own lo h v ety sz (ys.map e)) (hf:∀y∈ys,Flat k (e y)) (hn:k+1≤n):resolve tag h n v=some (eL tag sz e ys):=by
 obtain ⟨m,rfl,hm⟩:=pos_of_le hn
 cases w with
 | nil hv hx =>
  subst hv
  cases ys with
  | nil=>rfl
  | cons y r=>simp at hx
 | arr id hv hg hl hi =>
  subst hv
  have hmm:(ys.map e).mapM (Dm.resolve tag h m)=some (ys.map e):=mapM_self fun x hx=>by
   obtain ⟨y,hy,rfl⟩:=List.mem_map.1 hx
   exact hf y hy tag h m hm
  simp only [Dm.resolve,hg,true_and,Nat.zero_add,Nat.le_refl,if_true,List.drop_zero,List.take_length,hmm]
  rfl
end Own
theorem pcOut_ok {v d:DV} {h:Heap} {k:Nat} (hr:resolve false h deepFuel v=some d) (hu:Unl k d) (hk:k≤200):pcOut (some (v,h))=some d:=by
 simp only [pcOut,hr,hu deepFuel hk,if_true]
theorem Own.out {lo:Nat} {h:Heap} {v:DV} {ety sz:Nat} {α:Type} {e:α→DV} {ys:List α} {k:Nat} (w:Own lo h v ety sz (ys.map e)) (hf:∀y∈ys,Flat k (e y)) (hu:∀y∈ys,Unl k (e y)) (hk:k≤198) :
  pcOut (some (v,h))=some (eL false sz e ys) :=
 pcOut_ok (k:=k+1) (w.resolve false hf (by show k+1≤200;omega)) (unl_eL hu) (by omega)
theorem drop_cons {α:Type} {xs:List α} {i:Nat} {a:α} {r:List α} (h:xs.drop i=a::r):i<xs.length∧xs[i]?=some a∧xs.drop (i+1)=r:=by
 have h1:i<xs.length:=by
  by_cases hlt:i<xs.length
  ·exact hlt
  ·rw [List.drop_eq_nil_of_le (by omega)]at h;cases h
 rw [List.drop_eq_getElem_cons h1]at h
 injection h with h2 h3
 exact ⟨h1,by rw [List.getElem?_eq_getElem h1,h2],h3⟩
theorem drop_at {α:Type} {xs:List α} {i:Nat} {a:α} {r:List α} (h:xs.drop i=a::r):∃ hi:i<xs.length,xs[i]=a∧xs.drop (i+1)=r:=by
 obtain ⟨h1,h2,h3⟩:=drop_cons h
 exact ⟨h1,by rw [List.getElem?_eq_getElem h1]at h2;injection h2,h3⟩
theorem drop_nil {α:Type} {xs:List α} {i:Nat} (h:xs.drop i=[]):xs.length≤i:=List.drop_eq_nil_iff.1 h
structure ID where
 client:Int
 seq:Int
 deriving DecidableEq,Inhabited
structure Val where
 isText:Bool
 n:Int
 text:List UInt8
 deriving DecidableEq,Inhabited
structure Att where
 name:List UInt8
 val:Val
 deriving DecidableEq,Inhabited
structure Cons where
 name:List UInt8
 kind:Int
 lo:Int
 hi:Int
 text:List UInt8
 deriving DecidableEq,Inhabited
abbrev Pred:=List Cons
structure Advert where
 id:ID
 pred:Pred
 parent:Int
 deriving DecidableEq,Inhabited
structure Entry where
 tree:ID
 sub:ID
 pred:Pred
 frm:Int
 up:Bool
 deriving DecidableEq,Inhabited
structure OwnS where
 id:ID
 pred:Pred
 deriving DecidableEq,Inhabited
structure Broker where
 me:Int
 near:List Int
 adverts:List Advert
 seen:List ID
 entries:List Entry
 owns:List OwnS
 deriving DecidableEq,Inhabited
structure Msg where
 kind:Int
 tree:ID
 id:ID
 pred:Pred
 attrs:List Att
 deriving DecidableEq,Inhabited
structure Out where
 to:Int
 m:Msg
 deriving DecidableEq,Inhabited
def cInt (n:Int):DV:=.int .i64 n
def eCons (c:Cons):DV:=.agg [.str c.name,.int .i64 c.kind,.int .i64 c.lo,.int .i64 c.hi,.str c.text]
def ePred (p:Pred):DV:=eL false 5 eCons p
def eID (x:ID):DV:=.agg [.int .i64 x.client,.int .i64 x.seq]
def eAdvert (a:Advert):DV:=.agg [.int .i64 a.id.client,.int .i64 a.id.seq,ePred a.pred,.int .i64 a.parent]
def eEntry (e:Entry):DV:=.agg [.int .i64 e.tree.client,.int .i64 e.tree.seq,.int .i64 e.sub.client,.int .i64 e.sub.seq,ePred e.pred,.int .i64 e.frm,.bool e.up]
def eOwn (o:OwnS):DV:=.agg [.int .i64 o.id.client,.int .i64 o.id.seq,ePred o.pred]
structure Tags where
 near:Bool
 adverts:Bool
 seen:Bool
 entries:Bool
 owns:Bool
def Tags.none:Tags:=⟨false,false,false,false,false⟩
def eBroker (t:Tags) (b:Broker):DV:=.agg [.int .i64 b.me,eL t.near 1 cInt b.near,eL t.adverts 4 eAdvert b.adverts,eL t.seen 2 eID b.seen,eL t.entries 7 eEntry b.entries,eL t.owns 3 eOwn b.owns]
theorem plain_cons:Plain eCons:=⟨fun c=>(flat_agg (k:=1) (by
  intro x hx;simp only [List.mem_cons,List.not_mem_nil,or_false]at hx
  rcases hx with rfl|rfl|rfl|rfl|rfl<;>first|exact flat_int _ _|exact flat_str _)).mono (by decide),fun c=>(unl_agg (k:=1) (by
  intro x hx;simp only [List.mem_cons,List.not_mem_nil,or_false]at hx
  rcases hx with rfl|rfl|rfl|rfl|rfl<;>first|exact unl_int _ _|exact unl_str _)).mono (by decide)⟩
theorem unl_pred (p:Pred):Unl 21 (ePred p):=unl_eL fun x _=>plain_cons.unl x
theorem flat_pred (p:Pred):Flat 1 (ePred p):=flat_eL false 5 eCons p
end Go.Dm
/-
Part 4 of "De": the words by which 'simp' walks.
-/
namespace Go.Dm
theorem oneOp_call' (D:DProg) (g:Opd) (args:List Opd) (env:Env) (h:Heap):oneOp (fc D) (.call g args) env h=callV D (args.map (Opd.eval env)) h (g.eval env):=oneOp_call D h g args env
section
variable (c:Nat→List DV→Heap→Option (DV×Heap)) (h:Heap) (env:Env)
theorem on_move (x:Opd):oneOp c (.move x) env h=some (x.eval env,h):=rfl
theorem on_pick (x a b:Opd):oneOp c (.pick x a b) env h=callR h (pickV (x.eval env) (a.eval env) (b.eval env)):=st_pick ..
theorem on_alloc (ety sz:Nat) (z:DV):oneOp c (.alloc ety sz z) env h=some (.ptr h.n sz 0 0,h.push (.arr ety sz [z] (some 1))):=rfl
theorem on_box (ety sz:Nat) (x:Opd):oneOp c (.box ety sz x) env h=boxV h ety sz (x.eval env):=rfl
theorem on_build (zero:List DV) (parts:List (Nat×Nat×Opd)):oneOp c (.build zero parts) env h=aggV h (fillCells zero (parts.map fun p=>(p.1,p.2.1,p.2.2.eval env))):=st_build ..
theorem on_buildSlice (ety sz:Nat) (z:DV) (len:Nat) (parts:List (Nat×Opd)):oneOp c (.buildSlice ety sz z len parts) env h=sliceOfV h ety sz len (fillElems sz (List.replicate len z) (parts.map fun p=>(p.1,p.2.eval env))):=st_buildSlice ..
theorem on_load (n:Option Nat) (a:Opd):oneOp c (.load n a) env h=callR h (loadP h n (a.eval env)):=st_load ..
theorem on_store (n:Nat) (a x:Opd):oneOp c (.store n a x) env h=storeV (storeP h n (a.eval env) (x.eval env)):=st_store ..
theorem on_nilCheck (x:Opd):oneOp c (.nilCheck x) env h=callR h (nilCheckV (x.eval env)):=st_nilCheck ..
theorem on_arith (op:BinOp) (x y:Opd):oneOp c (.arith op x y) env h=callR h (arithD op (x.eval env) (y.eval env)):=st_arith ..
theorem on_eqb (neq:Bool) (x y:Opd):oneOp c (.eqb neq x y) env h=callR h (eqbV neq (x.eval env) (y.eval env)):=st_eqb ..
theorem on_eqa (neq:Bool) (ks:List Nat) (x y:Opd):oneOp c (.eqa neq ks x y) env h=callR h (flipV neq (eqBy (.agg ks) (x.eval env) (y.eval env))):=st_eqa ..
theorem on_eqn (k:Nat) (neq:Bool) (x y:Opd):oneOp c (.eqn k neq x y) env h=callR h (flipV neq (nilEq k (x.eval env) (y.eval env))):=st_eqn ..
theorem on_un (op:UnOp) (x:Opd):oneOp c (.un op x) env h=callR h (unD op (x.eval env)):=st_un ..
theorem on_conv (k:IntKind) (x:Opd):oneOp c (.conv k x) env h=callR h (convV k (x.eval env)):=st_conv ..
theorem on_asStr (x:Opd):oneOp c (.asStr x) env h=callR h (asStrV (x.eval env)):=st_asStr ..
theorem on_fieldAddr (off:Nat) (x:Opd):oneOp c (.fieldAddr off x) env h=callR h (fieldAddrV off (x.eval env)):=st_fieldAddr ..
theorem on_field (off:Nat) (n:Option Nat) (x:Opd):oneOp c (.field off n x) env h=callR h (fieldV off n (x.eval env)):=st_field ..
theorem on_indexAddr (sz:Nat) (x i:Opd):oneOp c (.indexAddr sz x i) env h=callR h (indexAddrV sz (x.eval env) (i.eval env)):=st_indexAddr ..
theorem on_indexArr (len esz:Nat) (x i:Opd):oneOp c (.indexArr len esz x i) env h=callR h (indexArrV len esz (x.eval env) (i.eval env)):=st_indexArr ..
theorem on_index (len esz:Nat) (n:Option Nat) (x i:Opd):oneOp c (.index len esz n x i) env h=callR h (indexV len esz n (x.eval env) (i.eval env)):=st_index ..
theorem on_indexStr (x i:Opd):oneOp c (.indexStr x i) env h=callR h (indexStrV (x.eval env) (i.eval env)):=st_indexStr ..
theorem on_sliceStr (x:Opd) (lo hi:Option Opd):oneOp c (.sliceStr x lo hi) env h=callR h (sliceStrV (x.eval env) (lo.map (Opd.eval env)) (hi.map (Opd.eval env))):=st_sliceStr ..
theorem on_sliceSl (sz:Nat) (x:Opd) (lo hi:Option Opd):oneOp c (.sliceSl sz x lo hi) env h=callR h (sliceV h sz (x.eval env) (lo.map (Opd.eval env)) (hi.map (Opd.eval env))):=st_sliceSl ..
theorem on_len (k:Nat) (x:Opd):oneOp c (.len k x) env h=callR h (lenV h k (x.eval env)):=st_len ..
theorem on_append (ety sz bytes:Nat) (s x:Opd):oneOp c (.append ety sz bytes s x) env h=appendV h ety sz bytes (s.eval env) (elems h sz (x.eval env)):=st_append ..
theorem on_copy (sz:Nat) (d s:Opd):oneOp c (.copy sz d s) env h=copyV h sz (d.eval env) (elems h sz (s.eval env)):=st_copy ..
theorem on_minmax (mx:Bool) (x y:Opd):oneOp c (.minmax mx x y) env h=callR h (minmaxV mx (x.eval env) (y.eval env)):=st_minmax ..
theorem on_makeFunc (f:FuncId) (cap:List Opd):oneOp c (.makeFunc f cap) env h=some (.func f (cap.map (Opd.eval env)),h):=rfl
theorem on_makeMap:oneOp c .makeMap env h=some (.map h.n,h.push (.mp [])):=rfl
theorem on_extract (x:Opd) (i:Nat):oneOp c (.extract x i) env h=callR h (extractV i (x.eval env)):=st_extract ..
theorem on_makeIface (t:TypeId) (x:Opd):oneOp c (.makeIface t x) env h=some (.iface t (x.eval env),h):=rfl
theorem on_lookup (q:EqT) (z:DV) (ok:Bool) (m k:Opd):oneOp c (.lookup q z ok m k) env h=callR h (lookupV q z ok (k.eval env) (entriesV h (m.eval env))):=st_lookup ..
theorem on_mapUpdate (q:EqT) (m k x:Opd):oneOp c (.mapUpdate q m k x) env h=storeV (updateV h q (m.eval env) (k.eval env) (x.eval env)):=st_mapUpdate ..
end
theorem upd_get (f:FEnv) (d i:Nat) (v:DV):upd f d v i=if i=d then v else f i:=rfl
theorem argF_get (args:List DV) (i:Nat):argF args i=args.getD i undefD:=rfl
theorem putF_some (f:FEnv) (d:Nat) (v:DV):putF f (some d) v=upd f d v:=rfl
theorem putF_none (f:FEnv) (v:DV):putF f none v=f:=rfl
theorem rd_eq (N:Nat) (f:FEnv) (i:Nat):rd N f i=if i<N then f i else .unk:=rfl
theorem loadP_iptr (h:Heap) (n:Option Nat) (l:Bool) (cs:List DV) (off:Nat):loadP h n (.iptr l cs off)=pickCells n cs off:=rfl
theorem pick1 (cs:List DV) (off:Nat):pickCells none cs off=cs[off]?:=rfl
theorem pickN (n:Nat) (cs:List DV) (off:Nat):pickCells (some n) cs off=if off+n≤cs.length then some (.agg ((cs.drop off).take n)) else none:=rfl
theorem storable_agg (n:Nat) (cs:List DV):storable n (.agg cs)=(cs.length == n):=rfl
theorem storable_int (n:Nat) (k:IntKind) (m:Int):storable n (.int k m)=(n == 1):=rfl
theorem storable_bool (n:Nat) (b:Bool):storable n (.bool b)=(n == 1):=rfl
theorem storable_str (n:Nat) (s:List UInt8):storable n (.str s)=(n == 1):=rfl
theorem storable_ptr (n a b c d:Nat):storable n (.ptr a b c d)=(n == 1):=rfl
theorem storable_sl (n a b c d:Nat):storable n (.sl a b c d)=(n == 1):=rfl
theorem storable_nsl (n:Nat):storable n .nsl=(n == 1):=rfl
theorem storable_isl (n:Nat) (t:Bool) (s:Nat) (xs:List DV):storable n (.isl t s xs)=(n == 1):=rfl
theorem storable_func (n:Nat) (f:Nat) (cs:List DV):storable n (.func f cs)=(n == 1):=rfl
theorem storable_map (n:Nat) (i:Nat):storable n (.map i)=(n == 1):=rfl
theorem storable_iface (n:Nat) (t:Nat) (d:DV):storable n (.iface t d)=(n == 1):=rfl
theorem storable_nili (n:Nat):storable n .nili=(n == 1):=rfl
theorem storable_nilp (n:Nat):storable n .nilp=(n == 1):=rfl
theorem storable_pred (p:Pred):storable 1 (ePred p)=true:=storable_eL ..
theorem turn_all (sz n:Nat) (e x:DV) (h:n=sz):turn sz 0 n e x=x:=by simp [turn,h]
theorem arith_add64 (a b:Int):arithD .add (.int .i64 a) (.int .i64 b)=some (.int .i64 (IntKind.i64.wrap (a+b))):=by simp [arithD]
theorem arith_sub64 (a b:Int):arithD .sub (.int .i64 a) (.int .i64 b)=some (.int .i64 (IntKind.i64.wrap (a-b))):=by simp [arithD]
theorem arith_mul64 (a b:Int):arithD .mul (.int .i64 a) (.int .i64 b)=some (.int .i64 (IntKind.i64.wrap (a*b))):=by simp [arithD]
theorem arith_eql (k:IntKind) (a b:Int):arithD .eql (.int k a) (.int k b)=some (.bool (a == b)):=by simp [arithD]
theorem arith_neq (k:IntKind) (a b:Int):arithD .neq (.int k a) (.int k b)=some (.bool (a != b)):=by simp [arithD]
theorem arith_lss (k:IntKind) (a b:Int):arithD .lss (.int k a) (.int k b)=some (.bool (decide (a<b))):=by simp [arithD]
theorem arith_leq (k:IntKind) (a b:Int):arithD .leq (.int k a) (.int k b)=some (.bool (decide (a≤b))):=by simp [arithD]
theorem arith_gtr (k:IntKind) (a b:Int):arithD .gtr (.int k a) (.int k b)=some (.bool (decide (b<a))):=by simp [arithD]
theorem arith_geq (k:IntKind) (a b:Int):arithD .geq (.int k a) (.int k b)=some (.bool (decide (b≤a))):=by simp [arithD]
theorem arith_seq (a b:List UInt8):arithD .eql (.str a) (.str b)=some (.bool (a == b)):=rfl
theorem arith_sne (a b:List UInt8):arithD .neq (.str a) (.str b)=some (.bool (!(a == b))):=rfl
theorem arith_slt (a b:List UInt8):arithD .lss (.str a) (.str b)=some (.bool (Go.Op.bytesLess a b)):=rfl
theorem arith_sle (a b:List UInt8):arithD .leq (.str a) (.str b)=some (.bool (Go.Op.bytesLess a b || a == b)):=rfl
theorem arith_sgt (a b:List UInt8):arithD .gtr (.str a) (.str b)=some (.bool (!(Go.Op.bytesLess a b || a == b))):=rfl
theorem arith_sge (a b:List UInt8):arithD .geq (.str a) (.str b)=some (.bool (!Go.Op.bytesLess a b)):=rfl
theorem un_not (b:Bool):unD .not (.bool b)=some (.bool (!b)):=rfl
theorem un_neg (k:IntKind) (n:Int):unD .neg (.int k n)=some (.int k (k.wrap (0-n))):=rfl
theorem eqBy_agg (ks:List Nat) (xs ys:List DV):eqBy (.agg ks) (.agg xs) (.agg ys)=cellsEq ks xs ys:=rfl
theorem eqBy_prim (k:Nat) (x y:DV):eqBy (.prim k) x y=primEq k x y:=rfl
theorem cellsEq_nil:cellsEq [] [] []=some true:=rfl
theorem cellsEq_int (ks:List Nat) (a b:Int) (k:IntKind) (xs ys:List DV):cellsEq (1::ks) (.int k a::xs) (.int k b::ys)=(cellsEq ks xs ys).map ((a == b) && ·):=by
 simp only [cellsEq,primEq,and_self,if_true];cases cellsEq ks xs ys<;>rfl
theorem cellsEq_str (ks:List Nat) (a b:List UInt8) (xs ys:List DV):cellsEq (2::ks) (.str a::xs) (.str b::ys)=(cellsEq ks xs ys).map ((a == b) && ·):=by
 simp only [cellsEq,primEq,if_true];cases cellsEq ks xs ys<;>rfl
theorem cellsEq_bool (ks:List Nat) (a b:Bool) (xs ys:List DV):cellsEq (0::ks) (.bool a::xs) (.bool b::ys)=(cellsEq ks xs ys).map ((a == b) && ·):=by
 simp only [cellsEq,primEq,if_true];cases cellsEq ks xs ys<;>rfl
theorem primEq_int (k:IntKind) (a b:Int):primEq 1 (.int k a) (.int k b)=some (a == b):=by simp [primEq]
theorem primEq_str (a b:List UInt8):primEq 2 (.str a) (.str b)=some (a == b):=by simp [primEq]
theorem primEq_bool (a b:Bool):primEq 0 (.bool a) (.bool b)=some (a == b):=by simp [primEq]
theorem fill_nil (cs:List DV):fillCells cs []=some cs:=rfl
theorem fill_cons (cs:List DV) (off n:Nat) (v:DV) (r:List (Nat×Nat×DV)) (hs:storable n v=true) (ho:off+n≤cs.length):fillCells cs ((off,n,v)::r)=fillCells (cs.take off++ecells n v++cs.drop (off+n)) r:=by
 simp [fillCells,hs,ho]
theorem fillE_nil (sz:Nat) (xs:List DV):fillElems sz xs []=some xs:=rfl
theorem fillE_cons (sz:Nat) (xs:List DV) (i:Nat) (v:DV) (r:List (Nat×DV)) (hs:storable sz v=true) (hi:i<xs.length):fillElems sz xs ((i,v)::r)=fillElems sz (xs.set i v) r:=by
 simp [fillElems,hs,hi]
theorem ecells_agg' (sz:Nat) (cs:List DV):ecells sz (.agg cs)=cs:=rfl
theorem ecells_int (sz:Nat) (k:IntKind) (n:Int):ecells sz (.int k n)=[.int k n]:=rfl
theorem ecells_bool (sz:Nat) (n:Bool):ecells sz (.bool n)=[.bool n]:=rfl
theorem ecells_str (sz:Nat) (n:List UInt8):ecells sz (.str n)=[.str n]:=rfl
theorem ecells_nsl (sz:Nat):ecells sz .nsl=[.nsl]:=rfl
theorem ecells_sl (sz a b c d:Nat):ecells sz (.sl a b c d)=[.sl a b c d]:=rfl
theorem ecells_ptr (sz a b c d:Nat):ecells sz (.ptr a b c d)=[.ptr a b c d]:=rfl
theorem ecells_isl (sz:Nat) (t:Bool) (s:Nat) (xs:List DV):ecells sz (.isl t s xs)=[.isl t s xs]:=rfl
theorem ecells_func (sz:Nat) (f:Nat) (cs:List DV):ecells sz (.func f cs)=[.func f cs]:=rfl
theorem ecells_map (sz:Nat) (i:Nat):ecells sz (.map i)=[.map i]:=rfl
theorem ecells_iface (sz t:Nat) (d:DV):ecells sz (.iface t d)=[.iface t d]:=rfl
theorem ecells_nili (sz:Nat):ecells sz .nili=[.nili]:=rfl
theorem ecells_nilp (sz:Nat):ecells sz .nilp=[.nilp]:=rfl
theorem ecells_pred (p:Pred):ecells 1 (ePred p)=[ePred p]:=ecells_eL ..
theorem elems_nsl (h:Heap) (sz:Nat):elems h sz .nsl=some []:=rfl
def loadE (n:Option Nat) (sz off:Nat):Option DV→Option DV|some e=>pickCells n (ecells sz e) off|none=>none
theorem loadE_some (n:Option Nat) (sz off:Nat) (e:DV):loadE n sz off (some e)=pickCells n (ecells sz e) off:=rfl
def loadO (n:Option Nat) (sz idx off:Nat):Option DO→Option DV
 | some (.arr _ sz' xs _)=>if sz=sz' then loadE n sz off xs[idx]? else none
 | _=>none
theorem loadO_some (n:Option Nat) (sz idx off ety sz':Nat) (xs:List DV) (cap:Option Nat):loadO n sz idx off (some (.arr ety sz' xs cap))=if sz=sz' then loadE n sz off xs[idx]? else none:=rfl
theorem loadP_eq (h:Heap) (n:Option Nat) (id sz idx off:Nat):loadP h n (.ptr id sz idx off)=loadO n sz idx off (h.get id):=by
 simp only [loadP,loadO]
 cases h.get id with
 | none=>rfl
 | some o=>cases o with
  | arr e s xs c =>
   simp only
   split
   ·cases xs[idx]?<;>rfl
   ·rfl
  | _=>rfl
def storeE (h:Heap) (n id sz idx off ety:Nat) (xs:List DV) (cap:Option Nat) (x:DV):Option DV→Option Heap
 | some e=>if (ecells sz e).length=sz then some (h.set id (.arr ety sz (xs.set idx (turn sz off n e x)) cap)) else none
 | none=>none
theorem storeE_some (h:Heap) (n id sz idx off ety:Nat) (xs:List DV) (cap:Option Nat) (x e:DV):storeE h n id sz idx off ety xs cap x (some e)=if (ecells sz e).length=sz then some (h.set id (.arr ety sz (xs.set idx (turn sz off n e x)) cap)) else none:=rfl
def storeO (h:Heap) (n id sz idx off:Nat) (x:DV):Option DO→Option Heap
 | some (.arr ety sz' xs cap)=>if sz=sz'∧h.lim≤id∧storable n x=true∧off+n≤sz then storeE h n id sz idx off ety xs cap x xs[idx]? else none
 | _=>none
theorem storeO_some (h:Heap) (n id sz idx off:Nat) (x:DV) (ety sz':Nat) (xs:List DV) (cap:Option Nat):storeO h n id sz idx off x (some (.arr ety sz' xs cap))=if sz=sz'∧h.lim≤id∧storable n x=true∧off+n≤sz then storeE h n id sz idx off ety xs cap x xs[idx]? else none:=rfl
theorem storeP_eq (h:Heap) (n id sz idx off:Nat) (x:DV):storeP h n (.ptr id sz idx off) x=storeO h n id sz idx off x (h.get id):=by
 simp only [storeP,storeO]
 cases h.get id with
 | none=>rfl
 | some o=>cases o with
  | arr e s xs c =>
   simp only
   split
   ·cases xs[idx]?<;>rfl
   ·rfl
  | _=>rfl
def elemsO (sz sz' off len:Nat):Option DO→Option (List DV)
 | some (.arr _ sz'' xs _)=>if sz=sz'∧sz=sz''∧off+len≤xs.length then some ((xs.drop off).take len) else none
 | _=>none
theorem elemsO_some (sz sz' off len ety sz'':Nat) (xs:List DV) (cap:Option Nat):elemsO sz sz' off len (some (.arr ety sz'' xs cap))=if sz=sz'∧sz=sz''∧off+len≤xs.length then some ((xs.drop off).take len) else none:=rfl
theorem elems_eq (h:Heap) (sz id sz' off len:Nat):elems h sz (.sl id sz' off len)=elemsO sz sz' off len (h.get id):=by
 simp only [elems,elemsO]
 cases h.get id with
 | none=>rfl
 | some o=>cases o<;>rfl
def someSl (sz id off:Nat) (lo:Option DV):Option Nat→Option DV
 | some b=>match boundV lo 0 b with
  | some a=>some (.sl id sz (off+a) (b-a))
  | none=>none
 | none=>none
def sliceO (sz sz' id off len:Nat) (lo hi:Option DV):Option DO→Option DV
 | some (.arr _ sz'' xs _)=>if sz=sz'∧sz=sz''∧off+len≤xs.length then someSl sz id off lo (boundV hi len (xs.length-off)) else none
 | _=>none
theorem sliceO_some (sz sz' id off len:Nat) (lo hi:Option DV) (ety sz'':Nat) (xs:List DV) (cap:Option Nat):sliceO sz sz' id off len lo hi (some (.arr ety sz'' xs cap))=if sz=sz'∧sz=sz''∧off+len≤xs.length then someSl sz id off lo (boundV hi len (xs.length-off)) else none:=rfl
theorem sliceV_sl (h:Heap) (sz id sz' off len:Nat) (lo hi:Option DV):sliceV h sz (.sl id sz' off len) lo hi=sliceO sz sz' id off len lo hi (h.get id):=by
 simp only [sliceV,sliceO]
 cases h.get id with
 | none=>rfl
 | some o=>cases o with
  | arr e s xs c =>
   simp only
   split
   ·cases boundV hi len (xs.length-off) with
    | none=>rfl
    | some b=>first|(simp only [someSl];done)|(simp only [someSl];cases boundV lo 0 b<;>rfl)
   ·rfl
  | _=>rfl
def slOf (sz id off b:Nat):Option Nat→Option DV
 | some a=>some (.sl id sz (off+a) (b-a))
 | none=>none
theorem slOf_some (sz id off b a:Nat):slOf sz id off b (some a)=some (.sl id sz (off+a) (b-a)):=rfl
theorem someSl_some (sz id off:Nat) (lo:Option DV) (b:Nat):someSl sz id off lo (some b)=slOf sz id off b (boundV lo 0 b):=by
 simp only [someSl,slOf]
def copyO (h:Heap) (sz sz' id off len:Nat) (ys:List DV):Option DO→Option (DV×Heap)
 | some (.arr ety sz'' xs cap)=>if sz=sz'∧sz=sz''∧off+len≤xs.length∧h.lim≤id then some (.int .i64 (ys.take len).length,h.set id (.arr ety sz (splice xs (ys.take len) off) cap)) else none
 | _=>none
theorem copyO_some (h:Heap) (sz sz' id off len:Nat) (ys:List DV) (ety sz'':Nat) (xs:List DV) (cap:Option Nat):copyO h sz sz' id off len ys (some (.arr ety sz'' xs cap))=if sz=sz'∧sz=sz''∧off+len≤xs.length∧h.lim≤id then some (.int .i64 (ys.take len).length,h.set id (.arr ety sz (splice xs (ys.take len) off) cap)) else none:=rfl
theorem copyD_sl (h:Heap) (sz id sz' off len:Nat) (ys:List DV):copyD h sz (.sl id sz' off len) ys=copyO h sz sz' id off len ys (h.get id):=by
 simp only [copyD,copyO]
 cases h.get id with
 | none=>rfl
 | some o=>cases o<;>rfl
def capV (h:Heap):DV→Option DV
 | .nsl=>some (.int .i64 0)
 | .sl id sz off _=>match h.get id with
  | some (.arr _ sz' _ (some c))=>if sz=sz' then some (.int .i64 (c-off:Nat)) else none
  | some (.arr _ sz' xs none)=>if sz=sz' then some (.atl (xs.length-off)) else none
  | _=>none
 | _=>none
theorem st_cap (h:Heap) (env:Env) (x:Opd):stepOp h env (.cap x)=callR h (capV h (x.eval env)):=by
 simp only [stepOp,capV]
 cases x.eval env with
 | sl id sz off len =>
  simp only
  cases h.get id with
  | none=>rfl
  | some o=>cases o with
   | arr e s xs c=>cases c<;>simp only<;>split<;>rfl
   | _=>rfl
 | _=>rfl
theorem on_cap (c:Nat→List DV→Heap→Option (DV×Heap)) (h:Heap) (env:Env) (x:Opd):oneOp c (.cap x) env h=callR h (capV h (x.eval env)):=st_cap h env x
def capO (sz off:Nat):Option DO→Option DV
 | some (.arr _ sz' _ (some c))=>if sz=sz' then some (.int .i64 (c-off:Nat)) else none
 | some (.arr _ sz' xs none)=>if sz=sz' then some (.atl (xs.length-off)) else none
 | _=>none
theorem capV_sl (h:Heap) (id sz off len:Nat):capV h (.sl id sz off len)=capO sz off (h.get id):=by
 simp only [capV,capO]
theorem capO_none (sz off ety sz':Nat) (xs:List DV):capO sz off (some (.arr ety sz' xs none))=if sz=sz' then some (.atl (xs.length-off)) else none:=rfl
theorem capO_some (sz off ety sz':Nat) (xs:List DV) (c:Nat):capO sz off (some (.arr ety sz' xs (some c)))=if sz=sz' then some (.int .i64 (c-off:Nat)) else none:=rfl
theorem arith_room (a:Int) (n:Nat) (h:a≤(n:Int)):arithD .gtr (.int .i64 a) (.atl n)=some (.bool false):=by simp [arithD,h]
def appendZV (h:Heap) (ety sz bytes:Nat) (z s:DV) (x:DV):Option (DV×Heap):=match asI x with
  | some n=>if 0≤n∧n≤140737488355328 then appendD h ety sz bytes s (List.replicate n.toNat z) else none
  | none=>none
theorem on_appendZ (c:Nat→List DV→Heap→Option (DV×Heap)) (h:Heap) (env:Env) (ety sz bytes:Nat) (z:DV) (s x:Opd):oneOp c (.appendZ ety sz bytes z s x) env h=appendZV h ety sz bytes z (s.eval env) (x.eval env):=rfl
theorem appendZV_int (h:Heap) (ety sz bytes:Nat) (z s:DV) (k:IntKind) (n:Int):appendZV h ety sz bytes z s (.int k n)=if 0≤n∧n≤140737488355328 then appendD h ety sz bytes s (List.replicate n.toNat z) else none:=rfl
theorem set_set {h:Heap} {id:Nat} {o o':DO}:(h.set id o).set id o'=h.set id o':=by
 simp [Heap.set]
theorem wf_push_iff {h:Heap} {o:DO}:WF (h.push o)↔WF h:=⟨fun w=>by unfold WF at *;simpa [Heap.push] using w,fun w=>w.push⟩
theorem wf_set_iff {h:Heap} {id:Nat} {o:DO}:WF (h.set id o)↔WF h:=⟨fun w=>by unfold WF at *;simpa [Heap.set] using w,fun w=>w.set⟩
theorem get_set_if {h:Heap} {id k:Nat} {o:DO} (w:WF h) (hid:id<h.n):(h.set id o).get k=if k=id then some o else h.get k:=get_set w hid
def wl (h:Heap) (l:Nat):Heap:={h with lim:=l}
theorem wf_wl_iff {h:Heap} {l:Nat}:WF (wl h l)↔WF h:=Iff.rfl
theorem WF.wl {h:Heap} (w:WF h) (l:Nat):WF (Dm.wl h l):=w
def crV (h:Heap) (L:DLog):Option (DV×Heap)→Option (DV×Heap×DLog)
 | some (v,h')=>some (v,wl h' h.lim,L)
 | none=>none
theorem crV_some (h:Heap) (L:DLog) (v:DV) (h':Heap):crV h L (some (v,h'))=some (v,wl h' h.lim,L):=rfl
theorem createOp_heap (c:CallFn) (l r:Nat) (L:DLog) (o:DOp) (env:Env) (h:Heap) (hp:pokeId L env o=none):createOp c l r L o env h=crV h L (oneOp c o env (wl h (max l h.lim))):=by
 unfold createOp
 rw [hp]
 simp only [heapOp,wl]
 cases oneOp c o env {h with lim:=max l h.lim} with
 | some p=>rfl
 | none =>
  simp only [crV]
  cases hq:pokeCall c r L o env h with
  | none=>rfl
  | some x=>exact absurd hq (pokeCall_off _ _ _ _ _ _ _)
theorem createOp_call (c:CallFn) (l r:Nat) (L:DLog) (g:Opd) (as:List Opd) (env:Env) (h:Heap):createOp c l r L (.call g as) env h=crV h L (oneOp c (.call g as) env (wl h (max l h.lim))):=createOp_heap _ _ _ _ _ _ _ rfl
theorem createOp_alloc (c:CallFn) (l r:Nat) (L:DLog) (e s:Nat) (z:DV) (env:Env) (h:Heap):createOp c l r L (.alloc e s z) env h=crV h L (oneOp c (.alloc e s z) env (wl h (max l h.lim))):=createOp_heap _ _ _ _ _ _ _ rfl
theorem createOp_box (c:CallFn) (l r:Nat) (L:DLog) (e s:Nat) (z:Opd) (env:Env) (h:Heap):createOp c l r L (.box e s z) env h=crV h L (oneOp c (.box e s z) env (wl h (max l h.lim))):=createOp_heap _ _ _ _ _ _ _ rfl
theorem createOp_buildSlice (c:CallFn) (l r:Nat) (L:DLog) (e s:Nat) (z:DV) (n:Nat) (ps:List (Nat×Opd)) (env:Env) (h:Heap):createOp c l r L (.buildSlice e s z n ps) env h=crV h L (oneOp c (.buildSlice e s z n ps) env (wl h (max l h.lim))):=createOp_heap _ _ _ _ _ _ _ rfl
theorem createOp_copy (c:CallFn) (l r:Nat) (L:DLog) (s:Nat) (d x:Opd) (env:Env) (h:Heap):createOp c l r L (.copy s d x) env h=crV h L (oneOp c (.copy s d x) env (wl h (max l h.lim))):=createOp_heap _ _ _ _ _ _ _ rfl
theorem createOp_makeMap (c:CallFn) (l r:Nat) (L:DLog) (env:Env) (h:Heap):createOp c l r L .makeMap env h=crV h L (oneOp c .makeMap env (wl h (max l h.lim))):=createOp_heap _ _ _ _ _ _ _ rfl
def ptrId:DV→Option Nat|.ptr id ..=>some id|_=>none
def slId:DV→Option Nat|.sl id ..=>some id|_=>none
def mapId:DV→Option Nat|.map id=>some id|_=>none
section
variable (env:Env)
theorem tg_load (n:Option Nat) (a:Opd):target env (.load n a)=ptrId (a.eval env):=by simp only [target];cases a.eval env<;>rfl
theorem tg_slice (sz:Nat) (x:Opd) (lo hi:Option Opd):target env (.sliceSl sz x lo hi)=slId (x.eval env):=by simp only [target];cases x.eval env<;>rfl
theorem tg_cap (x:Opd):target env (.cap x)=slId (x.eval env):=by simp only [target];cases x.eval env<;>rfl
theorem tg_len (k:Nat) (x:Opd):target env (.len k x)=mapId (x.eval env):=by simp only [target];cases x.eval env<;>rfl
theorem tg_lookup (q:EqT) (z:DV) (ok:Bool) (m k:Opd):target env (.lookup q z ok m k)=mapId (m.eval env):=by simp only [target];cases m.eval env<;>rfl
theorem tg_move (x:Opd):target env (.move x)=none:=_root_.id rfl
theorem tg_pick (c a b:Opd):target env (.pick c a b)=none:=_root_.id rfl
theorem tg_build (z:List DV) (ps:List (Nat×Nat×Opd)):target env (.build z ps)=none:=_root_.id rfl
theorem tg_arith (op:BinOp) (x y:Opd):target env (.arith op x y)=none:=_root_.id rfl
theorem tg_eqb (n:Bool) (x y:Opd):target env (.eqb n x y)=none:=_root_.id rfl
theorem tg_eqa (n:Bool) (ks:List Nat) (x y:Opd):target env (.eqa n ks x y)=none:=_root_.id rfl
theorem tg_eqn (k:Nat) (n:Bool) (x y:Opd):target env (.eqn k n x y)=none:=_root_.id rfl
theorem tg_un (op:UnOp) (x:Opd):target env (.un op x)=none:=_root_.id rfl
theorem tg_conv (k:IntKind) (x:Opd):target env (.conv k x)=none:=_root_.id rfl
theorem tg_asStr (x:Opd):target env (.asStr x)=none:=_root_.id rfl
theorem tg_nilCheck (x:Opd):target env (.nilCheck x)=none:=_root_.id rfl
theorem tg_fieldAddr (o:Nat) (x:Opd):target env (.fieldAddr o x)=none:=_root_.id rfl
theorem tg_field (o:Nat) (n:Option Nat) (x:Opd):target env (.field o n x)=none:=_root_.id rfl
theorem tg_indexAddr (s:Nat) (x i:Opd):target env (.indexAddr s x i)=none:=_root_.id rfl
theorem tg_indexArr (l e:Nat) (x i:Opd):target env (.indexArr l e x i)=none:=_root_.id rfl
theorem tg_index (l e:Nat) (n:Option Nat) (x i:Opd):target env (.index l e n x i)=none:=_root_.id rfl
theorem tg_indexStr (x i:Opd):target env (.indexStr x i)=none:=_root_.id rfl
theorem tg_sliceStr (x:Opd) (lo hi:Option Opd):target env (.sliceStr x lo hi)=none:=_root_.id rfl
theorem tg_minmax (b:Bool) (x y:Opd):target env (.minmax b x y)=none:=_root_.id rfl
theorem tg_makeFunc (f:FuncId) (c:List Opd):target env (.makeFunc f c)=none:=_root_.id rfl
theorem tg_extract (x:Opd) (i:Nat):target env (.extract x i)=none:=_root_.id rfl
theorem tg_makeIface (t:TypeId) (x:Opd):target env (.makeIface t x)=none:=_root_.id rfl
def noPl:Option Nat→Option (Nat×Place)
 | some id=>some (id,none)
 | none=>none
theorem noPl_some (id:Nat):noPl (some id)=some (id,none):=_root_.id rfl
theorem noPl_none:noPl none=none:=_root_.id rfl
def ptrPl (n:Option Nat):DV→Option (Nat×Place)
 | .ptr id sz i o=>some (id,some (n,sz,i,o))
 | _=>none
theorem ptrPl_ptr (n:Option Nat) (id sz i o:Nat):ptrPl n (.ptr id sz i o)=some (id,some (n,sz,i,o)):=_root_.id rfl
theorem ptrPl_iptr (n:Option Nat) (l:Bool) (cs:List DV) (o:Nat):ptrPl n (.iptr l cs o)=none:=_root_.id rfl
theorem mk_load (n:Option Nat) (a:Opd):mark env (.load n a)=ptrPl n (a.eval env):=by simp only [mark];cases a.eval env<;>rfl
theorem mk_slice (sz:Nat) (x:Opd) (lo hi:Option Opd):mark env (.sliceSl sz x lo hi)=noPl (slId (x.eval env)):=by rw [←tg_slice env];simp only [mark];cases target env (.sliceSl sz x lo hi)<;>rfl
theorem mk_cap (x:Opd):mark env (.cap x)=noPl (slId (x.eval env)):=by rw [←tg_cap env];simp only [mark];cases target env (.cap x)<;>rfl
theorem mk_len (k:Nat) (x:Opd):mark env (.len k x)=noPl (mapId (x.eval env)):=by rw [←tg_len env];simp only [mark];cases target env (.len k x)<;>rfl
theorem mk_lookup (q:EqT) (z:DV) (ok:Bool) (m k:Opd):mark env (.lookup q z ok m k)=noPl (mapId (m.eval env)):=by rw [←tg_lookup env];simp only [mark];cases target env (.lookup q z ok m k)<;>rfl
theorem mk_move (x:Opd):mark env (.move x)=none:=_root_.id rfl
theorem mk_pick (c a b:Opd):mark env (.pick c a b)=none:=_root_.id rfl
theorem mk_build (z:List DV) (ps:List (Nat×Nat×Opd)):mark env (.build z ps)=none:=_root_.id rfl
theorem mk_arith (op:BinOp) (x y:Opd):mark env (.arith op x y)=none:=_root_.id rfl
theorem mk_eqb (n:Bool) (x y:Opd):mark env (.eqb n x y)=none:=_root_.id rfl
theorem mk_eqa (n:Bool) (ks:List Nat) (x y:Opd):mark env (.eqa n ks x y)=none:=_root_.id rfl
theorem mk_eqn (k:Nat) (n:Bool) (x y:Opd):mark env (.eqn k n x y)=none:=_root_.id rfl
theorem mk_un (op:UnOp) (x:Opd):mark env (.un op x)=none:=_root_.id rfl
theorem mk_conv (k:IntKind) (x:Opd):mark env (.conv k x)=none:=_root_.id rfl
theorem mk_asStr (x:Opd):mark env (.asStr x)=none:=_root_.id rfl
theorem mk_nilCheck (x:Opd):mark env (.nilCheck x)=none:=_root_.id rfl
theorem mk_fieldAddr (o:Nat) (x:Opd):mark env (.fieldAddr o x)=none:=_root_.id rfl
theorem mk_field (o:Nat) (n:Option Nat) (x:Opd):mark env (.field o n x)=none:=_root_.id rfl
theorem mk_indexAddr (s:Nat) (x i:Opd):mark env (.indexAddr s x i)=none:=_root_.id rfl
theorem mk_indexArr (l e:Nat) (x i:Opd):mark env (.indexArr l e x i)=none:=_root_.id rfl
theorem mk_index (l e:Nat) (n:Option Nat) (x i:Opd):mark env (.index l e n x i)=none:=_root_.id rfl
theorem mk_indexStr (x i:Opd):mark env (.indexStr x i)=none:=_root_.id rfl
theorem mk_sliceStr (x:Opd) (lo hi:Option Opd):mark env (.sliceStr x lo hi)=none:=_root_.id rfl
theorem mk_minmax (b:Bool) (x y:Opd):mark env (.minmax b x y)=none:=_root_.id rfl
theorem mk_makeFunc (f:FuncId) (c:List Opd):mark env (.makeFunc f c)=none:=_root_.id rfl
theorem mk_extract (x:Opd) (i:Nat):mark env (.extract x i)=none:=_root_.id rfl
theorem mk_makeIface (t:TypeId) (x:Opd):mark env (.makeIface t x)=none:=_root_.id rfl
end
theorem ptrId_ptr (a b c d:Nat):ptrId (.ptr a b c d)=some a:=_root_.id rfl
theorem ptrId_iptr (l:Bool) (cs:List DV) (o:Nat):ptrId (.iptr l cs o)=none:=_root_.id rfl
theorem slId_sl (a b c d:Nat):slId (.sl a b c d)=some a:=_root_.id rfl
theorem slId_nsl:slId .nsl=none:=_root_.id rfl
theorem slId_eL {α:Type} (t:Bool) (sz:Nat) (e:α→DV) (xs:List α):slId (eL t sz e xs)=none:=by cases xs<;>rfl
theorem mapId_map (i:Nat):mapId (.map i)=some i:=_root_.id rfl
theorem mapId_eL {α:Type} (t:Bool) (sz:Nat) (e:α→DV) (xs:List α):mapId (eL t sz e xs)=none:=by cases xs<;>rfl
theorem mapId_sl (a b c d:Nat):mapId (.sl a b c d)=none:=_root_.id rfl
theorem mapId_nsl:mapId .nsl=none:=_root_.id rfl
theorem mapId_str (s:List UInt8):mapId (.str s)=none:=_root_.id rfl
theorem log_start:DLog.start=⟨[],[]⟩:=_root_.id rfl
theorem log_calm (L:DLog) (t:Option (Nat×Place)):DLog.see L true t=L:=_root_.id rfl
theorem log_see (L:DLog) (t:Option (Nat×Place)):DLog.see L false t=DLog.read L t:=_root_.id rfl
theorem log_read (r:List (Nat×Place)) (p:List (Nat×Nat)) (x:Nat×Place):DLog.read ⟨r,p⟩ (some x)=⟨x::r,p⟩:=_root_.id rfl
theorem log_read0 (L:DLog):DLog.read L none=L:=_root_.id rfl
theorem log_free0 (r:List (Nat×Place)) (s:Nat) (t:Option Nat):DLog.free ⟨r,[]⟩ s t=true:=by cases t<;>rfl
theorem log_freeN (L:DLog) (s:Nat):DLog.free L s none=true:=_root_.id rfl
theorem log_free (r:List (Nat×Place)) (p:Nat×Nat) (ps:List (Nat×Nat)) (s id:Nat):DLog.free ⟨r,p::ps⟩ s (some id)=((decide (p.1<s) || !decide (p.2=id)) && DLog.free ⟨r,ps⟩ s (some id)):=by
 have e1:Nat.blt p.1 s=decide (p.1<s):=by rw [Bool.eq_iff_iff];simp [Nat.blt_eq]
 have e2:Nat.beq p.2 id=decide (p.2=id):=by rw [Bool.eq_iff_iff];simp
 simp only [DLog.free,List.all_cons,e1,e2]
theorem apart_some (m:Option Nat) (z i o n idx off:Nat):apart (some (m,z,i,o)) n idx off=(!decide (i=idx) || decide (o+width m≤off) || decide (off+n≤o)):=by
 have e2:Nat.beq i idx=decide (i=idx):=by rw [Bool.eq_iff_iff];simp
 have e3:Nat.ble (o+width m) off=decide (o+width m≤off):=by rw [Bool.eq_iff_iff];simp
 have e4:Nat.ble (off+n) o=decide (off+n≤o):=by rw [Bool.eq_iff_iff];simp
 simp only [apart,e2,e3,e4]
theorem apart_none (n idx off:Nat):apart none n idx off=false:=_root_.id rfl
theorem width_none:width none=1:=_root_.id rfl
theorem width_some (n:Nat):width (some n)=n:=_root_.id rfl
def pkA (L:DLog):Option Nat→Option Nat
 | some id=>if L.rds.all (fun x=>!decide (x.1=id))=true then some id else none
 | none=>none
theorem pkA_some (r:List (Nat×Place)) (p:List (Nat×Nat)) (id:Nat):pkA ⟨r,p⟩ (some id)=if r.all (fun x=>!decide (x.1=id))=true then some id else none:=_root_.id rfl
theorem pkA_none (L:DLog):pkA L none=none:=_root_.id rfl
theorem pk_eq (L:DLog) (id:Nat):(L.rds.all fun x=>!(Nat.beq x.1 id))=(L.rds.all fun x=>!decide (x.1=id)):=by
 congr 1;funext x
 have e2:Nat.beq x.1 id=decide (x.1=id):=by rw [Bool.eq_iff_iff];simp
 rw [e2]
def pkS (L:DLog) (n:Nat):DV→Option Nat
 | .ptr id _ idx off=>if L.rds.all (fun x=>!decide (x.1=id) || apart x.2 n idx off)=true then some id else none
 | _=>none
theorem pkS_ptr (r:List (Nat×Place)) (p:List (Nat×Nat)) (n id sz idx off:Nat):pkS ⟨r,p⟩ n (.ptr id sz idx off)=if r.all (fun x=>!decide (x.1=id) || apart x.2 n idx off)=true then some id else none:=_root_.id rfl
theorem pkS_iptr (L:DLog) (n:Nat) (l:Bool) (cs:List DV) (o:Nat):pkS L n (.iptr l cs o)=none:=_root_.id rfl
theorem pk_store (L:DLog) (env:Env) (n:Nat) (a x:Opd):pokeId L env (.store n a x)=pkS L n (a.eval env):=by
 simp only [pokeId]
 cases a.eval env<;>try rfl
 rename_i id sz idx off
 have:(L.rds.all fun x=>!(Nat.beq x.1 id) || apart x.2 n idx off)=(L.rds.all fun x=>!decide (x.1=id) || apart x.2 n idx off):=by
  congr 1;funext x
  have e2:Nat.beq x.1 id=decide (x.1=id):=by rw [Bool.eq_iff_iff];simp
  rw [e2]
 simp only [this];rfl
theorem pk_append (L:DLog) (env:Env) (e s b:Nat) (a x:Opd):pokeId L env (.append e s b a x)=pkA L (slId (a.eval env)):=by
 simp only [pokeId,pkA,slId,pk_eq];cases a.eval env<;>rfl
def pkV (L:DLog) (r id:Nat):Option (DV×Heap)→Option (DV×Heap×DLog)
 | some (v,h')=>some (v,h',⟨L.rds,(r,id)::L.pks⟩)
 | none=>none
theorem pkV_some (rs:List (Nat×Place)) (ps:List (Nat×Nat)) (r id:Nat) (v:DV) (h':Heap):pkV ⟨rs,ps⟩ r id (some (v,h'))=some (v,h',⟨rs,(r,id)::ps⟩):=_root_.id rfl
def crP (c:CallFn) (l r:Nat) (L:DLog) (o:DOp) (env:Env) (h:Heap):Option Nat→Option (DV×Heap×DLog)
 | some id=>pkV L r id (stepOp h env o)
 | none=>crV h L (oneOp c o env (wl h (max l h.lim)))
theorem crP_some (c:CallFn) (l r:Nat) (L:DLog) (o:DOp) (env:Env) (h:Heap) (id:Nat):crP c l r L o env h (some id)=pkV L r id (stepOp h env o):=_root_.id rfl
theorem crP_none (c:CallFn) (l r:Nat) (L:DLog) (o:DOp) (env:Env) (h:Heap):crP c l r L o env h none=crV h L (oneOp c o env (wl h (max l h.lim))):=_root_.id rfl
theorem createOp_eq (c:CallFn) (l r:Nat) (L:DLog) (o:DOp) (env:Env) (h:Heap):createOp c l r L o env h=crP c l r L o env h (pokeId L env o):=by
 cases hp:pokeId L env o with
 | none=>rw [createOp_heap _ _ _ _ _ _ _ hp];rfl
 | some id =>
  unfold createOp
  rw [hp]
  simp only [crP,pkV]
  cases stepOp h env o with
  | none=>rfl
  | some q=>rfl
theorem createOp_store (c:CallFn) (l r:Nat) (L:DLog) (n:Nat) (a x:Opd) (env:Env) (h:Heap):createOp c l r L (.store n a x) env h=crP c l r L (.store n a x) env h (pkS L n (a.eval env)):=by rw [createOp_eq,pk_store]
theorem createOp_append (c:CallFn) (l r:Nat) (L:DLog) (e s b:Nat) (a x:Opd) (env:Env) (h:Heap):createOp c l r L (.append e s b a x) env h=crP c l r L (.append e s b a x) env h (pkA L (slId (a.eval env))):=by rw [createOp_eq,pk_append]
theorem createOp_mapUpdate (c:CallFn) (l r:Nat) (L:DLog) (q:EqT) (m k x:Opd) (env:Env) (h:Heap):createOp c l r L (.mapUpdate q m k x) env h=crV h L (oneOp c (.mapUpdate q m k x) env (wl h (max l h.lim))):=createOp_heap _ _ _ _ _ _ _ rfl
theorem res_int (t:Bool) (h:Heap) (n:Nat) (k:IntKind) (m:Int):resolve t h (n+1) (.int k m)=some (.int k m):=rfl
theorem res_bool (t:Bool) (h:Heap) (n:Nat) (m:Bool):resolve t h (n+1) (.bool m)=some (.bool m):=rfl
theorem res_str (t:Bool) (h:Heap) (n:Nat) (m:List UInt8):resolve t h (n+1) (.str m)=some (.str m):=rfl
theorem res_nsl (t:Bool) (h:Heap) (n:Nat):resolve t h (n+1) .nsl=some (.isl false 0 []):=rfl
theorem res_iptr (t:Bool) (h:Heap) (n:Nat) (l:Bool) (cs:List DV) (o:Nat):resolve t h (n+1) (.iptr l cs o)=some (.iptr l cs o):=rfl
theorem res_eL {α:Type} (t:Bool) (h:Heap) (n:Nat) (t':Bool) (sz:Nat) (e:α→DV) (xs:List α):resolve t h (n+1) (eL t' sz e xs)=some (eL t' sz e xs):=flat_eL t' sz e xs t h (n+1) (by omega)
theorem res_pred (t:Bool) (h:Heap) (n:Nat) (p:Pred):resolve t h (n+1) (ePred p)=some (ePred p):=res_eL ..
theorem res_nili (t:Bool) (h:Heap) (n:Nat):resolve t h (n+1) .nili=some .nili:=rfl
theorem res_nilp (t:Bool) (h:Heap) (n:Nat):resolve t h (n+1) .nilp=some .nilp:=rfl
theorem deep_eq (t:Bool) (h:Heap) (v:DV):resolve t h deepFuel v=resolve t h (199+1) v:=rfl
def resL (t:Bool) (h:Heap) (n:Nat) (vs:List DV):Option (List DV):=vs.mapM (resolve t h n)
theorem resL_eq (t:Bool) (h:Heap) (n:Nat) (vs:List DV):vs.mapM (resolve t h n)=resL t h n vs:=rfl
theorem resL_nil (t:Bool) (h:Heap) (n:Nat):resL t h n []=some []:=rfl
def consO:Option DV→Option (List DV)→Option (List DV)
 | some x,some l=>some (x::l)
 | _,_=>none
theorem consO_some (x:DV) (l:List DV):consO (some x) (some l)=some (x::l):=rfl
theorem resL_cons (t:Bool) (h:Heap) (n:Nat) (v:DV) (vs:List DV):resL t h n (v::vs)=consO (resolve t h n v) (resL t h n vs):=by
 unfold resL
 rw [List.mapM_cons]
 cases resolve t h n v<;>cases vs.mapM (resolve t h n)<;>rfl
def aggO:Option (List DV)→Option DV|some c=>some (.agg c)|none=>none
def tupO:Option (List DV)→Option DV|some c=>some (.tup c)|none=>none
def funO (f:Nat):Option (List DV)→Option DV|some c=>some (.func f c)|none=>none
theorem aggO_some (c:List DV):aggO (some c)=some (.agg c):=rfl
theorem tupO_some (c:List DV):tupO (some c)=some (.tup c):=rfl
theorem funO_some (f:Nat) (c:List DV):funO f (some c)=some (.func f c):=rfl
theorem res_agg (t:Bool) (h:Heap) (n:Nat) (cs:List DV):resolve t h (n+1) (.agg cs)=aggO (resL t h n cs):=by
 simp only [resolve];unfold resL;cases cs.mapM (resolve t h n)<;>rfl
theorem res_tup (t:Bool) (h:Heap) (n:Nat) (cs:List DV):resolve t h (n+1) (.tup cs)=tupO (resL t h n cs):=by
 simp only [resolve];unfold resL;cases cs.mapM (resolve t h n)<;>rfl
theorem res_func (t:Bool) (h:Heap) (n:Nat) (f:Nat) (cs:List DV):resolve t h (n+1) (.func f cs)=funO f (resL t h n cs):=by
 simp only [resolve];unfold resL;cases cs.mapM (resolve t h n)<;>rfl
def iptrO (t:Bool) (off:Nat):Option (List DV)→Option DV|some c=>some (.iptr t c off)|none=>none
theorem iptrO_some (t:Bool) (off:Nat) (c:List DV):iptrO t off (some c)=some (.iptr t c off):=rfl
def resE (t:Bool) (h:Heap) (n sz off:Nat):Option DV→Option DV|some e=>iptrO t off (resL t h n (ecells sz e))|none=>none
theorem resE_some (t:Bool) (h:Heap) (n sz off:Nat) (e:DV):resE t h n sz off (some e)=iptrO t off (resL t h n (ecells sz e)):=rfl
def resPtrO (t:Bool) (h:Heap) (n sz idx off:Nat):Option DO→Option DV
 | some (.arr _ sz' xs _)=>if sz=sz' then resE t h n sz off xs[idx]? else none
 | _=>none
theorem resPtrO_some (t:Bool) (h:Heap) (n sz idx off ety sz':Nat) (xs:List DV) (cap:Option Nat):resPtrO t h n sz idx off (some (.arr ety sz' xs cap))=if sz=sz' then resE t h n sz off xs[idx]? else none:=rfl
theorem res_ptr_eq (t:Bool) (h:Heap) (n id sz idx off:Nat):resolve t h (n+1) (.ptr id sz idx off)=resPtrO t h n sz idx off (h.get id):=by
 simp only [resolve,resPtrO]
 cases h.get id with
 | none=>rfl
 | some o=>cases o with
  | arr e s xs c =>
   simp only
   split
   ·cases xs[idx]? with
    | none=>rfl
    | some x=>simp only [resE,resL];cases (ecells sz x).mapM (resolve t h n)<;>rfl
   ·rfl
  | _=>rfl
def islO (t:Bool) (sz:Nat):Option (List DV)→Option DV|some ys=>some (mkIsl t sz ys)|none=>none
theorem islO_some (t:Bool) (sz:Nat) (ys:List DV):islO t sz (some ys)=some (mkIsl t sz ys):=rfl
def resSlO (t:Bool) (h:Heap) (n sz off len:Nat):Option DO→Option DV
 | some (.arr _ sz' xs _)=>if sz=sz'∧off+len≤xs.length then islO t sz (resL t h n ((xs.drop off).take len)) else none
 | _=>none
theorem resSlO_some (t:Bool) (h:Heap) (n sz off len ety sz':Nat) (xs:List DV) (cap:Option Nat):resSlO t h n sz off len (some (.arr ety sz' xs cap))=if sz=sz'∧off+len≤xs.length then islO t sz (resL t h n ((xs.drop off).take len)) else none:=rfl
theorem res_sl_eq (t:Bool) (h:Heap) (n id sz off len:Nat):resolve t h (n+1) (.sl id sz off len)=resSlO t h n sz off len (h.get id):=by
 simp only [resolve,resSlO]
 cases h.get id with
 | none=>rfl
 | some o=>cases o with
  | arr e s xs c =>
   simp only
   split
   ·simp only [resL];cases ((xs.drop off).take len).mapM (resolve t h n)<;>rfl
   ·rfl
  | _=>rfl
def outV (h:Heap) (v:DV):Option DV :=
 match resolve false h (199+1) v with
 | some d=>if unlent (199+1) d then some d else none
 | none=>none
theorem pcOut_some (v:DV) (h:Heap):pcOut (some (v,h))=outV h v:=rfl
def unlO:Option DV→Option DV
 | some d=>if unlent (199+1) d then some d else none
 | none=>none
theorem outV_eq (h:Heap) (v:DV):outV h v=unlO (resolve false h (199+1) v):=rfl
theorem unlO_int (k:IntKind) (n:Int):unlO (some (.int k n))=some (.int k n):=rfl
theorem unlO_bool (b:Bool):unlO (some (.bool b))=some (.bool b):=rfl
theorem unlO_str (b:List UInt8):unlO (some (.str b))=some (.str b):=rfl
theorem unlO_if (d:DV):unlO (some d)=if unlent 200 d=true then some d else none:=rfl
theorem ul_int (n:Nat) (k:IntKind) (m:Int):unlent (n+1) (.int k m)=true:=rfl
theorem ul_bool (n:Nat) (m:Bool):unlent (n+1) (.bool m)=true:=rfl
theorem ul_str (n:Nat) (m:List UInt8):unlent (n+1) (.str m)=true:=rfl
theorem ul_agg (n:Nat) (cs:List DV):unlent (n+1) (.agg cs)=cs.all (unlent n):=rfl
theorem ul_tup (n:Nat) (cs:List DV):unlent (n+1) (.tup cs)=cs.all (unlent n):=rfl
theorem ul_pred (n:Nat) (p:Pred):unlent (n+21) (ePred p)=true:=unl_pred p (n+21) (by omega)
theorem ul_isl0 (n:Nat) (sz:Nat):unlent (n+1) (.isl false sz [])=true:=by simp [unlent]
theorem ul_nili (n:Nat):unlent (n+1) .nili=true:=rfl
theorem ul_nilp (n:Nat):unlent (n+1) .nilp=true:=rfl
theorem runDK_read' (D:DProg) (N:Nat) (S:List Fr) (f:FEnv) (hs:List Heap) (L:DLog) (dst:Option Nat) (op:DOp) (s:Nat) (cm:Bool) (r:List DOper) (hf:L.free s (target (tab N f) op)=true) :
  runDK D N S dst op s cm r f hs L .read=runDH D N S dst op cm r f hs L (snapAt hs s):=by rw [runDK_read,if_pos hf]
theorem indexAddrV_eLm {α:Type} (t:Bool) (sz:Nat) (e:α→DV) (xs:List α) (k:IntKind) (i:Int) (h0:0≤i):indexAddrV sz (eL t sz e xs) (.int k i)=(xs[i.toNat]?).map fun a=>.iptr t (ecells sz (e a)) 0:=by
 cases hx:xs[i.toNat]? with
 | some a=>rw [indexAddrV_eL' t sz e k h0 hx];rfl
 | none =>
  cases xs with
  | nil=>simp [eL_nil,indexAddrV,asI]
  | cons x xs =>
   have hy:(List.map e (x::xs))[i.toNat]?=none:=by rw [List.getElem?_map,hx];rfl
   rw [eL_cons,←List.map_cons]
   simp only [indexAddrV,asI,h0,and_self,if_true,hy,Option.map_none]
theorem indexAddrV_nat {α:Type} (t:Bool) (sz:Nat) (e:α→DV) (xs:List α) (k:IntKind) (i:Nat):indexAddrV sz (eL t sz e xs) (.int k (i:Int))=(xs[i]?).map fun a=>.iptr t (ecells sz (e a)) 0:=by
 rw [indexAddrV_eLm _ _ _ _ _ _ (Int.natCast_nonneg i)];simp
theorem indexAddrV_succ {α:Type} (t:Bool) (sz:Nat) (e:α→DV) (xs:List α) (k:IntKind) (i:Nat):indexAddrV sz (eL t sz e xs) (.int k ((i:Int)+1))=(xs[i+1]?).map fun a=>.iptr t (ecells sz (e a)) 0:=by
 have:=indexAddrV_nat t sz e xs k (i+1)
 rwa [Int.natCast_add]at this
theorem wrapu64 {n:Int} (h1:0≤n) (h2:n≤18446744073709551615):IntKind.u64.wrap n=n:=by
 exact Go.IntWalk.u64_in n ⟨h1,h2⟩
theorem arith_shr1 (a:Int):arithD .shr (.int .u64 a) (.int .u64 1)=some (.int .u64 (a.fdiv 2)):=by
 simp [arithD,IntKind.bits]
theorem half (i j:Nat):((i:Int)+j).fdiv 2=((i+j) / 2:Nat):=by
 rw [Int.fdiv_eq_ediv_of_nonneg _ (by decide)];omega
theorem boundV_nat (k:IntKind) (n d l:Nat) (h:n≤l):boundV (some (.int k (n:Int))) d l=some n:=by
 rw [boundV_int _ _ _ _ (by omega) (by omega)];simp
theorem boundV_succ (k:IntKind) (n d l:Nat) (h:n+1≤l):boundV (some (.int k ((n:Int)+1))) d l=some (n+1):=by
 rw [boundV_int _ _ _ _ (by omega) (by omega)];simp
theorem boundV_zero (k:IntKind) (d l:Nat):boundV (some (.int k 0)) d l=some 0:=by
 rw [boundV_int _ _ _ _ (by omega) (by omega)];simp
theorem runG_undef (D:DProg) (N:Nat) (S:List Fr) (f:FEnv) (h:Heap) (o:DOper) (w:Bool) (r:List DOper):runG D N S o w r f h undefD=runO D N S r (putF f o.dst undefD) h:=rfl
theorem runDG_undef (D:DProg) (N:Nat) (S:List Fr) (f:FEnv) (hs:List Heap) (L:DLog) (o:DOper) (w:Bool) (r:List DOper):runDG D N S o w r f hs L undefD=runDN D N S o.dst o.kind r f L hs:=rfl
theorem run_loop_of {b c:DCode} (hb:b=c) (D:DProg) (N:Nat) (S:List Fr) (f:FEnv) (h:Heap):run D N S (.loop b) f h=run D N (.loop b::S) c f h:=by
 rw [run_loop];rw [←hb]
theorem xn_push (h:Heap) (o:DO):(h.push o).n=h.n+1:=_root_.id rfl
theorem xlim_push (h:Heap) (o:DO):(h.push o).lim=h.lim:=_root_.id rfl
theorem xn_set (h:Heap) (id':Nat) (o:DO):(h.set id' o).n=h.n:=_root_.id rfl
theorem xlim_set (h:Heap) (id':Nat) (o:DO):(h.set id' o).lim=h.lim:=_root_.id rfl
theorem xn_wl (h:Heap) (l:Nat):(wl h l).n=h.n:=_root_.id rfl
theorem xlim_wl (h:Heap) (l:Nat):(wl h l).lim=l:=_root_.id rfl
theorem xget_wl (h:Heap) (l i:Nat):(wl h l).get i=h.get i:=_root_.id rfl
theorem xpush_wl (h:Heap) (l:Nat) (o:DO):(wl h l).push o=wl (h.push o) l:=_root_.id rfl
theorem xset_wl (h:Heap) (l i:Nat) (o:DO):(wl h l).set i o=wl (h.set i o) l:=_root_.id rfl
theorem xwl_wl (h:Heap) (a b:Nat):wl (wl h a) b=wl h b:=_root_.id rfl
theorem xwl_self (h:Heap):wl h h.lim=h:=_root_.id rfl
theorem xwl_push_lim (h:Heap) (o:DO):wl (h.push o) h.lim=h.push o:=_root_.id rfl
theorem wl_same (h:Heap) (l:Nat) (hl:l=h.lim):wl h l=h:=by subst hl;rfl
theorem xn_heap0:heap0.n=0:=_root_.id rfl
theorem xlim_heap0:heap0.lim=0:=_root_.id rfl
attribute [simp] run_seq run_region runO_cons runO_nil runV_some ret_seq run_block run_skip run_ret run_exit ret_block ret_block_ret ret_block_exit ret_seq_exit ret_seq_ret ret_nil ret_loop_exit ret_loop_ret ret_loop
 run_cond runC_true runC_false runC_ite eval_t eval_c rd_eq argF_get putF_some putF_none upd_get
 on_move on_pick on_alloc on_box on_build on_buildSlice on_load on_store on_nilCheck on_arith on_eqb on_eqa on_eqn on_un on_conv on_asStr on_fieldAddr on_field on_indexAddr on_indexArr on_index on_indexStr on_sliceStr on_sliceSl on_len on_append on_copy on_minmax on_makeFunc on_makeMap on_extract on_makeIface on_lookup on_mapUpdate
 callR_some boxV_ok storable_agg storable_int storable_bool storable_str storable_ptr storable_sl storable_nsl storable_isl storable_func storable_map storable_iface storable_nili storable_nilp storable_eL storable_pred
 xn_set xlim_set get_push xn_push xn_heap0 xlim_heap0 xlim_push loadP_iptr loadP_eq loadO_some loadE_some storeP_eq storeO_some storeE_some elems_eq elemsO_some storeV_some turn_all set_set wf_push_iff wf_set_iff wf_wl_iff get_set_if wf_heap0 xn_wl xlim_wl xget_wl xpush_wl xset_wl xwl_wl xwl_self xwl_push_lim wl_same crV_some createOp_call createOp_alloc createOp_box createOp_buildSlice createOp_copy createOp_makeMap sliceV_sl sliceO_some someSl_some slOf_some copyV_some copyD_sl copyO_some on_cap st_cap capV_sl capO_none capO_some arith_room on_appendZ appendZV_int pick1 pickN push_set_if ecells_agg' ecells_int ecells_bool ecells_str ecells_nsl ecells_sl ecells_ptr ecells_isl ecells_func ecells_map ecells_iface ecells_nili ecells_nilp ecells_eL ecells_pred
 fieldAddrV_ptr fieldAddrV_iptr fieldV_agg lenV_eL lenV_str lenV_nsl lenV_sl lenV_isl arith_add64 arith_sub64 arith_mul64 arith_eql arith_neq arith_lss arith_leq arith_gtr arith_geq arith_seq arith_sne arith_slt arith_sle arith_sgt arith_sge un_not un_neg
 eqBy_agg eqBy_prim cellsEq_nil cellsEq_int cellsEq_str cellsEq_bool primEq_int primEq_str primEq_bool flipV_some eqbV_bool pickV_bool convV_int asStrV_str extractV_tup aggV_some sliceOfV_some fill_nil fill_cons fillE_nil fillE_cons appendV_some elems_nsl elems_eL nilCheckV_ptr nilCheckV_iptr minmaxV_int
 oneOp_call' callV_func callP_some
 resL_eq resL_nil resL_cons consO_some aggO_some tupO_some funO_some iptrO_some res_int res_bool res_str res_nsl res_iptr res_eL res_pred res_nili res_nilp res_agg res_tup res_func deep_eq res_ptr_eq resPtrO_some resE_some res_sl_eq resSlO_some islO_some
 fin_ret fin_normal finR_some resultsOf_one resultOf_t resultOf_cell pcOut_some outV_eq unlO_int unlO_bool unlO_str unlO_if ul_int ul_bool ul_str ul_agg ul_tup ul_pred ul_isl0 ul_nili ul_nilp
 run_draw runD_nil runD_cons runD_guard runDG_bool runDG_tup runDN_read runDN_write runDN_create runDK_read' runDK_write runDK_create runDH_some runDC_some runDR_some runDW_some runDX_some tg_load tg_slice tg_cap tg_len tg_lookup tg_move tg_pick tg_build tg_arith tg_eqb tg_eqa tg_eqn tg_un tg_conv tg_asStr tg_nilCheck tg_fieldAddr tg_field tg_indexAddr tg_indexArr tg_index tg_indexStr tg_sliceStr tg_minmax tg_makeFunc tg_extract tg_makeIface
 ptrId_ptr ptrId_iptr slId_sl slId_nsl slId_eL mapId_map mapId_eL mapId_sl mapId_nsl mapId_str log_start log_calm log_see log_read apart_some apart_none width_none width_some pkS_ptr pkS_iptr noPl_some noPl_none ptrPl_ptr ptrPl_iptr mk_load mk_slice mk_cap mk_len mk_lookup mk_move mk_pick mk_build mk_arith mk_eqb mk_eqa mk_eqn mk_un mk_conv mk_asStr mk_nilCheck mk_fieldAddr mk_field mk_indexAddr mk_indexArr mk_index mk_indexStr mk_sliceStr mk_minmax mk_makeFunc mk_extract mk_makeIface log_read0 log_free0 log_freeN log_free pkA_some pkA_none pkV_some crP_some crP_none createOp_store createOp_append createOp_mapUpdate snapAt_eq runO_guard runG_bool runG_tup runG_undef runDG_undef
 st_move st_pick st_alloc st_box st_build st_buildSlice st_load st_store st_nilCheck st_arith st_eqb st_eqa st_eqn st_un st_conv st_asStr st_fieldAddr st_field st_indexAddr st_indexArr st_index st_indexStr st_sliceStr st_sliceSl st_len st_append st_copy st_minmax st_makeFunc st_makeMap st_extract st_makeIface st_lookup st_mapUpdate
 boundV_none boundV_nat boundV_succ boundV_zero boundV_int indexAddrV_nat indexAddrV_succ indexAddrV_eLm wrap64 wrapu64 arith_shr1 half
end Go.Dm
/-
Part 5 of "De": copies of rows; rows with room left over behind a deletion.
-/
namespace Go.Dm
inductive OwnR (lo:Nat) (h:Heap) (v:DV) (ety sz:Nat) (xs:List DV):Prop where
 | nil (hv:v=.nsl) (hx:xs=[])
 | arr (id:Nat) (sp:List DV) (cap:Option Nat) (hv:v=.sl id sz 0 xs.length) (hg:h.get id=some (.arr ety sz (xs++sp) cap)) (hlim:h.lim≤id) (hlo:lo≤id)
theorem Own.toR {lo:Nat} {h:Heap} {v:DV} {ety sz:Nat} {xs:List DV} (w:Own lo h v ety sz xs):OwnR lo h v ety sz xs:=by
 cases w with
 | nil hv hx=>exact .nil hv hx
 | arr id hv hg hl hi=>exact .arr id [] none hv (by simpa using hg) hl hi
section OwnR
variable {lo:Nat} {h:Heap} {v:DV} {ety sz:Nat} {xs:List DV}
theorem OwnR.push {o:DO} (w:OwnR lo h v ety sz xs):OwnR lo (h.push o) v ety sz xs:=by
 cases w with
 | nil hv hx=>exact .nil hv hx
 | arr id sp cap hv hg hlim hlo =>
  refine .arr id sp cap hv ?_ hlim hlo
  rw [get_push,if_neg (by have:=get_some_lt hg;omega)];exact hg
theorem OwnR.ext {h':Heap} (w:OwnR lo h v ety sz xs) (x:Ext h.n h h'):OwnR lo h' v ety sz xs:=by
 cases w with
 | nil hv hx=>exact .nil hv hx
 | arr id sp cap hv hg hl hi=>exact .arr id sp cap hv ((x.get id (get_some_lt hg)).trans hg) (by rw [x.lim];exact hl) hi
theorem OwnR.lenV (w:OwnR lo h v ety sz xs):lenV h 1 v=some (.int .i64 xs.length):=by
 cases w with
 | nil hv hx=>subst hv;subst hx;rfl
 | arr id sp cap hv hg hl hi=>subst hv;rfl
theorem OwnR.elems (w:OwnR lo h v ety sz xs):elems h sz v=some xs:=by
 cases w with
 | nil hv hx=>subst hv;subst hx;rfl
 | arr id sp cap hv hg hl hi=>subst hv;simp [Dm.elems,hg]
theorem OwnR.resolve {α:Type} {e:α→DV} {ys:List α} {k n:Nat} (tag:Bool) (w:OwnR lo h v ety sz (ys.map e)) (hf:∀y∈ys,Flat k (e y)) (hn:k+1≤n):resolve tag h n v=some (eL tag sz e ys):=by
 obtain ⟨m,rfl,hm⟩:=pos_of_le hn
 cases w with
 | nil hv hx =>
  subst hv
  cases ys with
  | nil=>rfl
  | cons y r=>simp at hx
 | arr id sp cap hv hg hl hi =>
  subst hv
  have hmm:(ys.map e).mapM (Dm.resolve tag h m)=some (ys.map e):=mapM_self fun x hx=>by
   obtain ⟨y,hy,rfl⟩:=List.mem_map.1 hx
   exact hf y hy tag h m hm
  simp only [Dm.resolve,hg,true_and,Nat.zero_add,List.length_append,Nat.le_add_right,if_true,List.drop_zero,List.take_left,hmm]
  rfl
theorem OwnR.storable (w:OwnR lo h v ety sz xs):storable 1 v=true:=by
 cases w with
 | nil hv hx=>subst hv;rfl
 | arr id sp cap hv hg hl hi=>subst hv;rfl
theorem OwnR.ecells (w:OwnR lo h v ety sz xs):ecells 1 v=[v]:=by
 cases w with
 | nil hv hx=>subst hv;rfl
 | arr id sp cap hv hg hl hi=>subst hv;rfl
theorem OwnR.out {α:Type} {e:α→DV} {ys:List α} {k:Nat} (w:OwnR lo h v ety sz (ys.map e)) (hf:∀y∈ys,Flat k (e y)) (hu:∀y∈ys,Unl k (e y)) (hk:k≤198) :
  pcOut (some (v,h))=some (eL false sz e ys) :=
 pcOut_ok (k:=k+1) (w.resolve false hf (by show k+1≤200;omega)) (unl_eL hu) (by omega)
theorem OwnR.index (w:OwnR lo h v ety sz xs) {i:Nat} {x:DV} (hx:xs[i]?=some x) (k:IntKind) :
  ∃ id sp cap,v=.sl id sz 0 xs.length∧h.get id=some (.arr ety sz (xs++sp) cap)∧h.lim≤id∧lo≤id∧indexAddrV sz v (.int k (i:Int))=some (.ptr id sz i 0)∧(xs++sp)[i]?=some x:=by
 have hi:i<xs.length:=by
  by_cases hlt:i<xs.length
  ·exact hlt
  ·rw [List.getElem?_eq_none (by omega)]at hx;cases hx
 cases w with
 | nil hv hx'=>subst hx';simp at hi
 | arr id sp cap hv hg hl hlo =>
  refine ⟨id,sp,cap,hv,hg,hl,hlo,?_,by rw [List.getElem?_append_left hi];exact hx⟩
  subst hv
  simp [indexAddrV,asI,hi]
end OwnR
theorem Own.storable {lo:Nat} {h:Heap} {v:DV} {ety sz:Nat} {xs:List DV} (w:Own lo h v ety sz xs):storable 1 v=true:=w.toR.storable
theorem Own.ecells {lo:Nat} {h:Heap} {v:DV} {ety sz:Nat} {xs:List DV} (w:Own lo h v ety sz xs):ecells 1 v=[v]:=w.toR.ecells
theorem Own.wl {lo:Nat} {h:Heap} {v:DV} {ety sz:Nat} {xs:List DV} (w:Own lo h v ety sz xs) {m:Nat} (hm:m≤lo):Own lo (Dm.wl h m) v ety sz xs:=by
 cases w with
 | nil hv hx=>exact .nil hv hx
 | arr id hv hg hl hi=>exact .arr id hv hg (Nat.le_trans hm hi) hi
theorem Own.setLow {lo:Nat} {h:Heap} {v:DV} {ety sz:Nat} {xs:List DV} (w:Own lo h v ety sz xs) (wf:WF h) {id:Nat} {o:DO} (hid:id<lo) (hn:id<h.n):Own lo (h.set id o) v ety sz xs:=by
 cases w with
 | nil hv hx=>exact .nil hv hx
 | arr k hv hg hl hi=>exact .arr k hv (by rw [get_set wf hn,if_neg (by omega)];exact hg) hl hi
theorem Ext.wl {lo:Nat} {h h':Heap} (x:Ext lo h h') (m:Nat) (hm:m=h.lim):Ext lo h (Dm.wl h' m):=⟨x.le,hm,x.get,x.wf⟩
def Keep (ety:Nat) (h h':Heap):Prop:=∀k o,h.get k=some o→(∀s xs c,o≠.arr ety s xs c)→h'.get k=some o
theorem Keep.refl (ety:Nat) (h:Heap):Keep ety h h:=fun _ _ h _=>h
theorem Keep.push {ety:Nat} {h h':Heap} {o:DO} (x:Keep ety h h'):Keep ety h (h'.push o):=fun k ob hg hne=>by
 have:=x k ob hg hne
 rw [get_push,if_neg (by have:=get_some_lt this;omega)];exact this
theorem Keep.set {ety:Nat} {h h':Heap} {id s:Nat} {xs:List DV} {c:Option Nat} {o:DO} (x:Keep ety h h') (w:WF h') (hg:h.get id=some (.arr ety s xs c)) (hid:id<h'.n):Keep ety h (h'.set id o):=fun k ob hk hne=>by
 have hki:k≠id:=by
  intro e
  subst e
  rw [hg]at hk
  injection hk with hk
  exact hne _ _ _ hk.symm
 rw [get_set w hid,if_neg hki]
 exact x k ob hk hne
theorem Own.keep {lo:Nat} {h h':Heap} {v:DV} {ety e2 sz:Nat} {xs:List DV} (w:Own lo h v e2 sz xs) (x:Keep ety h h') (hl:h'.lim=h.lim) (hne:e2≠ety):Own lo h' v e2 sz xs:=by
 cases w with
 | nil hv hx=>exact .nil hv hx
 | arr id hv hg hlim hlo =>
  exact .arr id hv (x _ _ hg (fun s ys c e=>by injection e with e1;exact hne e1)) (by rw [hl];exact hlim) hlo
theorem OwnR.keep {lo:Nat} {h h':Heap} {v:DV} {ety e2 sz:Nat} {xs:List DV} (w:OwnR lo h v e2 sz xs) (x:Keep ety h h') (hl:h'.lim=h.lim) (hne:e2≠ety):OwnR lo h' v e2 sz xs:=by
 cases w with
 | nil hv hx=>exact .nil hv hx
 | arr id sp cap hv hg hlim hlo =>
  exact .arr id sp cap hv (x _ _ hg (fun s ys c e=>by injection e with e1;exact hne e1)) (by rw [hl];exact hlim) hlo
theorem OwnR.setLow {lo:Nat} {h:Heap} {v:DV} {ety sz:Nat} {xs:List DV} (w:OwnR lo h v ety sz xs) (wf:WF h) {id:Nat} {o:DO} (hid:id<lo) (hn:id<h.n):OwnR lo (h.set id o) v ety sz xs:=by
 cases w with
 | nil hv hx=>exact .nil hv hx
 | arr k sp cap hv hg hl hi=>exact .arr k sp cap hv (by rw [get_set wf hn,if_neg (by omega)];exact hg) hl hi
theorem appendD_in {h:Heap} {id ety sz bytes len:Nat} {xs ys:List DV} {cap:Option Nat} (hg:h.get id=some (.arr ety sz xs cap)) (hlen:len+ys.length≤xs.length) (hlim:h.lim≤id) (hb:(len+ys.length)*bytes≤140737488355328) (hb1:1≤bytes) (hy:ys≠[]) :
  appendD h ety sz bytes (.sl id sz 0 len) ys=some (.sl id sz 0 (len+ys.length),h.set id (.arr ety sz (splice xs ys len) cap)):=by
 have hm:len+ys.length≤140737488355328:=Nat.le_trans (Nat.le_mul_of_pos_right _ hb1) hb
 have hye:ys.isEmpty=false:=by cases ys<;>simp_all
 simp only [appendD,hye,hg,Bool.false_eq_true,if_false,true_and,Nat.zero_add]
 rw [if_pos ⟨by omega,hb,by omega⟩,if_pos hlen,if_pos hlim]
theorem appendD_new {h:Heap} {id ety sz bytes len c:Nat} {xs ys:List DV} (hg:h.get id=some (.arr ety sz xs (some c))) (hl:len≤xs.length) (hlen:xs.length<len+ys.length) (hb:(len+ys.length)*bytes≤140737488355328) (hb1:1≤bytes) (hy:ys≠[]) :
  appendD h ety sz bytes (.sl id sz 0 len) ys=some (.sl h.n sz 0 (len+ys.length),h.push (.arr ety sz (xs.take len++ys) none)):=by
 have hm:len+ys.length≤140737488355328:=Nat.le_trans (Nat.le_mul_of_pos_right _ hb1) hb
 have hye:ys.isEmpty=false:=by cases ys<;>simp_all
 simp only [appendD,hye,hg,Bool.false_eq_true,if_false,true_and,Nat.zero_add,List.drop_zero]
 rw [if_pos ⟨hl,hb,by omega⟩,if_neg (by omega)]
theorem OwnR.start (lo:Nat) (h:Heap) (ety sz:Nat):OwnR lo h .nsl ety sz []:=.nil rfl rfl
theorem OwnR.fresh {lo:Nat} {h:Heap} {ety sz:Nat} {xs:List DV} {cap:Option Nat} (hlim:h.lim≤h.n) (hlo:lo≤h.n):OwnR lo (h.push (.arr ety sz xs cap)) (.sl h.n sz 0 xs.length) ety sz xs:=.arr h.n [] cap rfl (by simp [get_push]) hlim hlo
theorem OwnR.append {lo:Nat} {h:Heap} {v:DV} {ety sz bytes:Nat} {xs ys:List DV} {A:Option (DV×Heap)} (w:OwnR lo h v ety sz xs) (wf:WF h) (hlo:lo≤h.n) (hlim:h.lim≤h.n) (hA:appendD h ety sz bytes v ys=A)
  (hb:(xs.length+ys.length)*bytes≤140737488355328) (hb1:1≤bytes):∃ v' h',A=some (v',h')∧OwnR lo h' v' ety sz (xs++ys)∧Ext lo h h'∧Keep ety h h':=by
 have hm:xs.length+ys.length≤140737488355328:=Nat.le_trans (Nat.le_mul_of_pos_right _ hb1) hb
 by_cases hy:ys=[]
 ·subst hy
  refine ⟨v,h,?_,by simpa using w,.refl hlo wf,.refl _ _⟩
  rw [←hA]
  cases w with
  | nil hv hx=>subst hv;rfl
  | arr id sp cap hv hg _ _=>subst hv;rfl
 ·have hye:ys.isEmpty=false:=by cases ys<;>simp_all
  have hyl:0<ys.length:=List.length_pos_iff.2 hy
  cases w with
  | nil hv hx =>
   subst hv;subst hx
   simp only [List.length_nil,Nat.zero_add]at hb hm
   refine ⟨.sl h.n sz 0 ys.length,h.push (.arr ety sz ys none),?_,.arr h.n [] none rfl (by simp [get_push]) (by exact hlim) hlo,(Ext.refl hlo wf).push,(Keep.refl _ _).push⟩
   rw [←hA]
   simp only [appendD,hye]
   rw [if_neg (by simp),if_pos ⟨hb,by omega⟩]
  | arr id sp cap hv hg hl hi =>
   subst hv
   have hlt:=get_some_lt hg
   by_cases hin:xs.length+ys.length≤(xs++sp).length
   ·refine ⟨.sl id sz 0 (xs.length+ys.length),h.set id (.arr ety sz (splice (xs++sp) ys xs.length) cap),?_,.arr id (sp.drop ys.length) cap (by simp) ?_ (by exact hl) hi,(Ext.refl hlo wf).set hi hlt,(Keep.refl _ _).set wf hg hlt⟩
    ·rw [←hA];exact appendD_in hg hin hl hb hb1 hy
    ·rw [get_set wf hlt,if_pos rfl]
     simp only [splice,List.take_left',List.append_assoc]
     congr 3
     rw [List.drop_append]
     simp
   ·cases cap with
    | none =>
     refine ⟨.sl h.n sz 0 (xs.length+ys.length),(h.set id .dead).push (.arr ety sz (xs++ys) none),?_,.arr h.n [] none (by simp) ?_ (by exact hlim) hlo,((Ext.refl hlo wf).set hi hlt).push,((Keep.refl _ _).set wf hg hlt).push⟩
     ·rw [←hA]
      simp only [appendD,hye,hg]
      simp only [Bool.false_eq_true,if_false,true_and,Nat.zero_add,List.drop_zero]
      rw [if_pos ⟨by simp,hb,by omega⟩,if_neg hin,if_pos hl]
      simp
     ·simp
    | some c =>
     refine ⟨.sl h.n sz 0 (xs.length+ys.length),h.push (.arr ety sz (xs++ys) none),?_,.arr h.n [] none (by simp) ?_ (by exact hlim) hlo,(Ext.refl hlo wf).push,(Keep.refl _ _).push⟩
     ·rw [←hA]
      rw [appendD_new hg (by simp) (by omega) hb hb1 hy]
      simp
     ·simp
structure OwnI (lo:Nat) (h:Heap) (id ety sz:Nat) (xs:List DV):Prop where
 get:∃ sp cap,h.get id=some (.arr ety sz (xs++sp) cap)
 lim:h.lim≤id
 lo:lo≤id
theorem OwnI.toR {lo:Nat} {h:Heap} {id ety sz:Nat} {xs:List DV} (w:OwnI lo h id ety sz xs):OwnR lo h (.sl id sz 0 xs.length) ety sz xs:=by
 obtain ⟨⟨sp,cap,hg⟩,hl,hi⟩:=w
 exact .arr id sp cap rfl hg hl hi
theorem OwnI.lt {lo:Nat} {h:Heap} {id ety sz:Nat} {xs:List DV} (w:OwnI lo h id ety sz xs):id<h.n:=by
 obtain ⟨⟨sp,cap,hg⟩,_,_⟩:=w
 exact get_some_lt hg
theorem OwnI.fresh {lo:Nat} {h:Heap} {ety sz:Nat} {xs:List DV} {cap:Option Nat} (hlim:h.lim≤h.n) (hlo:lo≤h.n):OwnI lo (h.push (.arr ety sz xs cap)) h.n ety sz xs:=⟨⟨[],cap,by simp [get_push]⟩,hlim,hlo⟩
theorem OwnI.push {lo:Nat} {h:Heap} {id ety sz:Nat} {xs:List DV} {o:DO} (w:OwnI lo h id ety sz xs):OwnI lo (h.push o) id ety sz xs:=by
 obtain ⟨⟨sp,cap,hg⟩,hl,hi⟩:=w
 exact ⟨⟨sp,cap,by rw [get_push,if_neg (by have:=get_some_lt hg;omega)];exact hg⟩,hl,hi⟩
theorem OwnI.keep {lo:Nat} {h h':Heap} {id ety e2 sz:Nat} {xs:List DV} (w:OwnI lo h id e2 sz xs) (x:Keep ety h h') (hl:h'.lim=h.lim) (hne:e2≠ety):OwnI lo h' id e2 sz xs:=by
 obtain ⟨⟨sp,cap,hg⟩,hlim,hi⟩:=w
 exact ⟨⟨sp,cap,x _ _ hg (fun s ys c e=>by injection e with e1;exact hne e1)⟩,by rw [hl];exact hlim,hi⟩
theorem OwnI.setLow {lo:Nat} {h:Heap} {id ety sz:Nat} {xs:List DV} (w:OwnI lo h id ety sz xs) (wf:WF h) {k:Nat} {o:DO} (hid:k<lo) (hn:k<h.n):OwnI lo (h.set k o) id ety sz xs:=by
 obtain ⟨⟨sp,cap,hg⟩,hl,hi⟩:=w
 exact ⟨⟨sp,cap,by rw [get_set wf hn,if_neg (by omega)];exact hg⟩,hl,hi⟩
theorem OwnI.wl {lo:Nat} {h:Heap} {id ety sz:Nat} {xs:List DV} (w:OwnI lo h id ety sz xs) {m:Nat} (hm:m≤lo):OwnI lo (Dm.wl h m) id ety sz xs:=by
 obtain ⟨⟨sp,cap,hg⟩,hl,hi⟩:=w
 exact ⟨⟨sp,cap,hg⟩,Nat.le_trans hm hi,hi⟩
theorem OwnI.ext {lo:Nat} {h h':Heap} {id ety sz:Nat} {xs:List DV} (w:OwnI lo h id ety sz xs) (x:Ext h.n h h'):OwnI lo h' id ety sz xs:=by
 have:=w.lt
 obtain ⟨⟨sp,cap,hg⟩,hl,hi⟩:=w
 exact ⟨⟨sp,cap,(x.get id this).trans hg⟩,by rw [x.lim];exact hl,hi⟩
theorem OwnI.append {lo:Nat} {h:Heap} {id ety sz bytes:Nat} {xs ys:List DV} {A:Option (DV×Heap)} {n:Nat} (w:OwnI lo h id ety sz xs) (hn:n=xs.length) (wf:WF h) (hlo:lo≤h.n) (hlim:h.lim≤h.n) (hA:appendD h ety sz bytes (.sl id sz 0 n) ys=A)
  (hb:(xs.length+ys.length)*bytes≤140737488355328) (hb1:1≤bytes):∃ id' h',A=some (.sl id' sz 0 (xs.length+ys.length),h')∧OwnI lo h' id' ety sz (xs++ys)∧Ext lo h h'∧Keep ety h h'∧(id'=id∨h.n≤id'):=by
 subst hn
 have hm:xs.length+ys.length≤140737488355328:=Nat.le_trans (Nat.le_mul_of_pos_right _ hb1) hb
 by_cases hy:ys=[]
 ·subst hy
  refine ⟨id,h,?_,by simpa using w,.refl hlo wf,.refl _ _,.inl rfl⟩
  rw [←hA];rfl
 ·have hye:ys.isEmpty=false:=by cases ys<;>simp_all
  obtain ⟨⟨sp,cap,hg⟩,hl,hi⟩:=w
  have hlt:=get_some_lt hg
  by_cases hin:xs.length+ys.length≤(xs++sp).length
  ·refine ⟨id,h.set id (.arr ety sz (splice (xs++sp) ys xs.length) cap),?_,⟨⟨sp.drop ys.length,cap,?_⟩,hl,hi⟩,(Ext.refl hlo wf).set hi hlt,(Keep.refl _ _).set wf hg hlt,.inl rfl⟩
   ·rw [←hA];exact appendD_in hg hin hl hb hb1 hy
   ·rw [get_set wf hlt,if_pos rfl]
    simp only [splice,List.take_left',List.append_assoc]
    congr 3
    rw [List.drop_append]
    simp
  ·cases cap with
   | none =>
    refine ⟨h.n,(h.set id .dead).push (.arr ety sz (xs++ys) none),?_,⟨⟨[],none,?_⟩,hlim,hlo⟩,((Ext.refl hlo wf).set hi hlt).push,((Keep.refl _ _).set wf hg hlt).push,.inr (Nat.le_refl _)⟩
    ·rw [←hA]
     simp only [appendD,hye,hg]
     simp only [Bool.false_eq_true,if_false,true_and,Nat.zero_add,List.drop_zero]
     rw [if_pos ⟨by simp,hb,by omega⟩,if_neg hin,if_pos hl]
     simp
    ·simp
   | some c =>
    refine ⟨h.n,h.push (.arr ety sz (xs++ys) none),?_,⟨⟨[],none,?_⟩,hlim,hlo⟩,(Ext.refl hlo wf).push,(Keep.refl _ _).push,.inr (Nat.le_refl _)⟩
    ·rw [←hA]
     rw [appendD_new hg (by simp) (by omega) hb hb1 hy]
     simp
    ·simp
theorem elems_isl (h:Heap) (t:Bool) (sz:Nat) (xs:List DV):elems h sz (.isl t sz xs)=some xs:=by simp [elems]
theorem slId_isl (t:Bool) (sz:Nat) (xs:List DV):slId (.isl t sz xs)=none:=_root_.id rfl
theorem mapId_isl (t:Bool) (sz:Nat) (xs:List DV):mapId (.isl t sz xs)=none:=_root_.id rfl
theorem sliceV_take {α:Type} (h:Heap) (t:Bool) (sz:Nat) (e:α→DV) (xs:List α) (k:IntKind) (i:Nat) (hi:i≤xs.length):sliceV h sz (eL t sz e xs) none (some (.int k (i:Int)))=some (.isl (t && !xs.isEmpty) sz ((xs.take i).map e)):=by
 cases xs with
 | nil =>
  have h0:i=0:=by simpa using hi
  subst h0
  simp [eL_nil,sliceV,boundV,asI]
 | cons x xs =>
  have h2:(i:Int)≤((xs.length+1:Nat):Int):=by simp at hi;omega
  rw [eL_cons]
  simp only [sliceV,List.length_cons,List.length_map,boundV,asI]
  simp only [List.isEmpty_cons,Bool.not_false,Bool.and_true,true_or,if_true,Int.natCast_nonneg,h2,and_self,Int.toNat_natCast,List.drop_zero,Nat.sub_zero]
  rw [←List.map_cons,←List.map_take]
theorem sliceV_dropN {α:Type} (h:Heap) (t:Bool) (sz:Nat) (e:α→DV) (xs:List α) (k:IntKind) (i:Nat) (hi:i≤xs.length):sliceV h sz (eL t sz e xs) (some (.int k (i:Int))) none=some (.isl (t && !xs.isEmpty) sz ((xs.drop i).map e)):=by
 cases xs with
 | nil =>
  have h0:i=0:=by simpa using hi
  subst h0
  simp [eL_nil,sliceV,boundV,asI]
 | cons x xs =>
  have h2:(i:Int)≤((xs.length+1:Nat):Int):=by simp at hi;omega
  rw [eL_cons]
  simp only [sliceV,List.length_cons,List.length_map,boundV,asI]
  simp only [List.isEmpty_cons,Bool.not_false,Bool.and_true,true_or,if_true,Int.natCast_nonneg,h2,and_self,Int.toNat_natCast]
  rw [←List.map_cons,←List.map_drop,List.take_of_length_le (by simp)]
theorem sliceV_dropS {α:Type} (h:Heap) (t:Bool) (sz:Nat) (e:α→DV) (xs:List α) (k:IntKind) (i:Nat) (hi:i+1≤xs.length):sliceV h sz (eL t sz e xs) (some (.int k ((i:Int)+1))) none=some (.isl (t && !xs.isEmpty) sz ((xs.drop (i+1)).map e)):=by
 have:=sliceV_dropN h t sz e xs k (i+1) hi
 rwa [Int.natCast_add]at this
attribute [simp] elems_isl slId_isl mapId_isl sliceV_take sliceV_dropN sliceV_dropS
theorem all_zip_self {α:Type} {f:α×α→Bool}:∀{l:List α},(∀x∈l,f (x,x)=true)→(l.zip l).all f=true:=by
 intro l
 induction l with
 | nil=>intro _;rfl
 | cons x r ih =>
  intro h
  rw [List.zip_cons_cons,List.all_cons,h x (List.mem_cons_self ..),ih fun y hy=>h y (List.mem_cons_of_mem _ hy)];rfl
theorem nat_beq_self (n:Nat):Nat.beq n n=true:=by simp [Nat.beq_eq]
inductive Dep:Nat→DV→Prop where
 | int (k:IntKind) (n:Int) {d:Nat}:Dep (d+1) (.int k n)
 | bool (b:Bool) {d:Nat}:Dep (d+1) (.bool b)
 | str (s:List UInt8) {d:Nat}:Dep (d+1) (.str s)
 | isl (t:Bool) (sz:Nat) (xs:List DV) {d:Nat} (h:∀x∈xs,Dep d x):Dep (d+1) (.isl t sz xs)
 | agg (xs:List DV) {d:Nat} (h:∀x∈xs,Dep d x):Dep (d+1) (.agg xs)
theorem Dep.same {d:Nat} {v:DV} (h:Dep d v):∀{n:Nat},d≤n→same n v v=true:=by
 induction h with
 | int k n=>intro m hm;obtain ⟨q,rfl,_⟩:=pos_of_le hm;simp [Dm.same]
 | bool b=>intro m hm;obtain ⟨q,rfl,_⟩:=pos_of_le hm;simp [Dm.same]
 | str s=>intro m hm;obtain ⟨q,rfl,_⟩:=pos_of_le hm;simp [Dm.same]
 | isl t sz xs h ih =>
  intro m hm;obtain ⟨q,rfl,hq⟩:=pos_of_le hm
  simp only [Dm.same,nat_beq_self,beq_self_eq_true,Bool.true_and]
  exact all_zip_self fun x hx=>ih x hx hq
 | agg xs h ih =>
  intro m hm;obtain ⟨q,rfl,hq⟩:=pos_of_le hm
  simp only [Dm.same,nat_beq_self,Bool.true_and]
  exact all_zip_self fun x hx=>ih x hx hq
theorem Dep.belowN {d:Nat} {v:DV} (h:Dep d v):∀{n N:Nat},d≤n→Dm.below n N v=true:=by
 induction h with
 | int k n=>intro m N hm;obtain ⟨q,rfl,_⟩:=pos_of_le hm;rfl
 | bool b=>intro m N hm;obtain ⟨q,rfl,_⟩:=pos_of_le hm;rfl
 | str s=>intro m N hm;obtain ⟨q,rfl,_⟩:=pos_of_le hm;rfl
 | isl t sz xs h ih=>intro m N hm;obtain ⟨q,rfl,hq⟩:=pos_of_le hm;rfl
 | agg xs h ih =>
  intro m N hm;obtain ⟨q,rfl,hq⟩:=pos_of_le hm
  simp only [Dm.below,List.all_eq_true]
  exact fun x hx=>ih x hx hq
theorem Dep.eL {α:Type} {d:Nat} (t:Bool) (sz:Nat) {e:α→DV} {xs:List α} (h:∀x∈xs,Dep d (e x)):Dep (d+1) (eL t sz e xs):=by
 cases xs with
 | nil=>exact .isl _ _ _ (fun x hx=>by cases hx)
 | cons x r =>
  rw [eL_cons,←List.map_cons]
  refine .isl _ _ _ fun y hy=>?_
  obtain ⟨z,hz,rfl⟩:=List.mem_map.1 hy
  exact h z hz
theorem Dep.mono {d:Nat} {v:DV} (h:Dep d v):∀{e:Nat},d≤e→Dep e v:=by
 induction h with
 | int k n=>intro e he;obtain ⟨q,rfl,_⟩:=pos_of_le he;exact .int _ _
 | bool b=>intro e he;obtain ⟨q,rfl,_⟩:=pos_of_le he;exact .bool _
 | str s=>intro e he;obtain ⟨q,rfl,_⟩:=pos_of_le he;exact .str _
 | isl t sz xs h ih=>intro e he;obtain ⟨q,rfl,hq⟩:=pos_of_le he;exact .isl _ _ _ fun x hx=>ih x hx hq
 | agg xs h ih=>intro e he;obtain ⟨q,rfl,hq⟩:=pos_of_le he;exact .agg _ fun x hx=>ih x hx hq
theorem flat_cells {cs:List DV} (h:∀x∈cs,Flat 1 x):Flat 20 (.agg cs):=(flat_agg h).mono (by decide)
theorem unl_cells {cs:List DV} (h:∀x∈cs,Unl 21 x):Unl 22 (.agg cs):=unl_agg h
theorem plain_id (x:ID):Flat 20 (eID x)∧Unl 22 (eID x):=⟨flat_cells (by
 intro x hx;simp only [List.mem_cons,List.not_mem_nil,or_false]at hx
 rcases hx with rfl|rfl<;>exact flat_int _ _),unl_cells (by
 intro x hx;simp only [List.mem_cons,List.not_mem_nil,or_false]at hx
 rcases hx with rfl|rfl<;>exact (unl_int _ _).mono (by decide))⟩
theorem plain_advert (a:Advert):Flat 20 (eAdvert a)∧Unl 22 (eAdvert a):=⟨flat_cells (by
 intro x hx;simp only [List.mem_cons,List.not_mem_nil,or_false]at hx
 rcases hx with rfl|rfl|rfl|rfl<;>first|exact flat_int _ _|exact flat_pred _),unl_cells (by
 intro x hx;simp only [List.mem_cons,List.not_mem_nil,or_false]at hx
 rcases hx with rfl|rfl|rfl|rfl<;>first|exact (unl_int _ _).mono (by decide)|exact unl_pred _)⟩
theorem plain_entry (a:Entry):Flat 20 (eEntry a)∧Unl 22 (eEntry a):=⟨flat_cells (by
 intro x hx;simp only [List.mem_cons,List.not_mem_nil,or_false]at hx
 rcases hx with rfl|rfl|rfl|rfl|rfl|rfl|rfl<;>first|exact flat_int _ _|exact flat_pred _|exact flat_bool _),unl_cells (by
 intro x hx;simp only [List.mem_cons,List.not_mem_nil,or_false]at hx
 rcases hx with rfl|rfl|rfl|rfl|rfl|rfl|rfl<;>first|exact (unl_int _ _).mono (by decide)|exact unl_pred _|exact (unl_bool _).mono (by decide))⟩
theorem plain_own (a:OwnS):Flat 20 (eOwn a)∧Unl 22 (eOwn a):=⟨flat_cells (by
 intro x hx;simp only [List.mem_cons,List.not_mem_nil,or_false]at hx
 rcases hx with rfl|rfl|rfl<;>first|exact flat_int _ _|exact flat_pred _),unl_cells (by
 intro x hx;simp only [List.mem_cons,List.not_mem_nil,or_false]at hx
 rcases hx with rfl|rfl|rfl<;>first|exact (unl_int _ _).mono (by decide)|exact unl_pred _)⟩
theorem plain_cint (n:Int):Flat 20 (cInt n)∧Unl 22 (cInt n):=⟨(flat_int _ _).mono (by decide),(unl_int _ _).mono (by decide)⟩
theorem ul_ints (n:Nat) (xs:List Int):unlent (n+23) (eL false 1 cInt xs)=true:=unl_eL (fun x _=>(plain_cint x).2) _ (by omega)
theorem ul_ids (n:Nat) (xs:List ID):unlent (n+23) (eL false 2 eID xs)=true:=unl_eL (fun x _=>(plain_id x).2) _ (by omega)
theorem ul_adverts (n:Nat) (xs:List Advert):unlent (n+23) (eL false 4 eAdvert xs)=true:=unl_eL (fun x _=>(plain_advert x).2) _ (by omega)
theorem ul_entries (n:Nat) (xs:List Entry):unlent (n+23) (eL false 7 eEntry xs)=true:=unl_eL (fun x _=>(plain_entry x).2) _ (by omega)
theorem ul_owns (n:Nat) (xs:List OwnS):unlent (n+23) (eL false 3 eOwn xs)=true:=unl_eL (fun x _=>(plain_own x).2) _ (by omega)
attribute [simp] ul_ints ul_ids ul_adverts ul_entries ul_owns
end Go.Dm
/-
Arguments of a call from outside: what the frame tells of them,in the machine's form;a function with arguments that answers true.
-/
namespace Go.Dm
open Go.RowKit
theorem args_true {P : Program} {D : DProg} (G : Good P D) {f : Nat} {fn : Func} {body : Code} (hf : P.funcs[f]? = some fn) (hb : fn.body = some body) (hn : fn.name ≠ "runtime.NumGoroutine") {ds : List DV} {vs : List Value} {h' : Heap} (hr : fc D f ds emptyH = some (.bool true, h')) (w : World) (hg : Laid w) (hv : VRs (ctx0 w) ds vs) :
  Calls P f vs.toArray w fun e w'=>e=.returned (.bool true)∧Grown w w'∧∀b,b<w.heap.size→w'.heap[b]?=w.heap[b]?:=by
 obtain ⟨n,he⟩:=fc_some.1 hr
 have hc:=call_sound G n f ds emptyH _ h' (ctx0 w) vs he (rel0 w hg) hv
 have hen:=callFunc_enter hf hb hn vs.toArray w
 rcases hc with ⟨v,w',hrun,_⟩|⟨f',vals',hrun,hcalls⟩
 ·have:(callFunc f vs.toArray).run P w=.ok (.value v) w':=hrun
  rw [hen]at this
  cases this
 ·have h2:(callFunc f vs.toArray).run P w=.ok (.enter f' vals') w:=hrun
  rw [hen]at h2
  cases h2
  refine hcalls.mono fun e w' hp=>?_
  obtain ⟨v,e1,ρ',k1,k2,k3⟩:=hp
  exact ⟨by rw [e1,k3.bool_inv],grown_of_le k2,fun b hb=>k2.frame b hb fun h=>h⟩
structure Bare (c:Ctx) (w:World):Prop where
 w:c.w=w
 O:∀b,¬c.O b
 X:∀b,¬c.X b
theorem Bare.zero (w:World):Bare (ctx0 w) w:=⟨rfl,fun _ h=>h,fun _ h=>h⟩
theorem Bare.still {c:Ctx} {w:World} (h:Bare c w):Bare c.still w:=⟨h.w,h.O,h.X⟩
def CellsR (c:Ctx) (ds:List DV) (cs:List Value):Prop:=ds.length=cs.length∧∀i (h1:i<ds.length) (h2:i<cs.length),VR c ds[i] cs[i]∧(cs[i]).oneCell'=true
theorem CellsR.append {c:Ctx} {ds ds':List DV} {cs cs':List Value} (h:CellsR c ds cs) (h':CellsR c ds' cs'):CellsR c (ds++ds') (cs++cs'):=by
 refine ⟨by rw [List.length_append,List.length_append,h.1,h'.1],fun i h1 h2=>?_⟩
 by_cases hlt:i<ds.length
 ·rw [List.getElem_append_left hlt,List.getElem_append_left (by rw [←h.1];exact hlt)]
  exact h.2 i hlt _
 ·rw [List.getElem_append_right (by omega),List.getElem_append_right (by rw [←h.1];omega)]
  have:i-cs.length=i-ds.length:=by rw [h.1]
  simp only [this]
  exact h'.2 (i-ds.length) (by rw [List.length_append]at h1;omega) _
theorem CellsR.one {c:Ctx} {d:DV} {v:Value} (h:VR c d v) (h1:v.oneCell'=true):CellsR c [d] [v]:=by
 refine ⟨rfl,fun i h2 h3=>?_⟩
 have:i=0:=by simp at h2;omega
 subst this
 exact ⟨h,h1⟩
theorem CellsR.nil {c:Ctx}:CellsR c [] []:=⟨rfl,fun i h=>absurd h (Nat.not_lt_zero _)⟩
section
variable {H:Type} {enc:TypeId×Value→H} {P:Program} {w:World} {sp:Nat→Bool} {held:Bool}
theorem read_int {t:TypeId} {cs:List Value} {fuel:Nat} {x:DataW H×List MemPlace} (ht:P.underlying t=some (.int .i64)) (h:DataW.trod enc P w 0 sp held fuel t cs=some x) (c:Ctx):∃ n:Int,CellsR c [.int .i64 n] cs:=by
 obtain ⟨n,rfl,_,_⟩:=DataW.trod_int ht h
 exact ⟨n,.one (.int _ _) rfl⟩
theorem same_of {w':World} (hg:∀b,b<w.heap.size→w'.heap[b]?=w.heap[b]?) {p:MemPlace} (hp:p.block<w.heap.size):w.sameAt w' p:=by
 cases p with
 | cell b off =>
  show w'.cell? ⟨b,off,none⟩=w.cell? ⟨b,off,none⟩
  unfold World.cell?
  rw [hg b hp]
 | map b=>exact hg b hp
theorem trodAll_same {w':World} (hg:∀b,b<w.heap.size→w'.heap[b]?=w.heap[b]?) (sp':Nat→Bool):∀{ts:List TypeId} {vs:List Value} {ds:List (DataW H)} {ps:List MemPlace},DataW.TrodAll enc P w 0 sp' held ts vs ds ps→(∀p∈ps,p.block<w.heap.size)→DataW.TrodAll enc P w' 0 sp' held ts vs ds ps
 | [],[],[],_,h,_=>h
 | t::ts,v::vs,d::ds,ps,h,hl=>by
  obtain ⟨p,q,⟨fuel,h1⟩,h2,rfl⟩:=h
  exact ⟨p,q,⟨fuel,DataW.trod_carry _ _ _ _ h1 fun x hx=>same_of hg (hl x (List.mem_append.2 (.inl hx)))⟩,trodAll_same hg sp' h2 fun x hx=>hl x (List.mem_append.2 (.inr hx)),rfl⟩
end
end Go.Dm
