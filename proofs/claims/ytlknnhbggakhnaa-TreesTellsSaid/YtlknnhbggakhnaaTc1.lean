/-
The table of functions, brought into the machine's form (Tc, part 1). Written by program (wip/tools/table.lean.txt).
-/
import Derived.Test.YtlknnhbggakhnaaTc0
import Derived.Test.YtlknnhbggakhnaaMm3
import Derived.Test.YtlknnhbggakhnaaRows
import Derived.KernelRfl
namespace Go.Dm.Tc
open Go.Proofs
def t41:DFunc:={ntmps:=15,results:=[.t 6],mode:=.full,body :=
 (oQ [oW 6 (.move (oI 0))]
 (oQ [oM 7 0,oM 8 1,oW 9 (.arith .sub (.t 8) (oI 1)),oM 10 1,oM 11 1,oW 12 (.arith .add (.t 11) (oI 1)),oM 13 2,oW 14 (.call (oF 42) [.t 7,.t 9,.t 10,.t 12,.t 13]),oM 6 14]
 .ret))}
theorem c41:compFunc Try.prog Try.f41 .full=some t41:=by kernel_rfl
def t42:DFunc:={ntmps:=36,results:=[.t 10],mode:=.full,body :=
 (oQ [oW 10 (.move (oI 0))]
 (oQ [oM 12 0,oM 13 1,oM 14 2,oM 15 4,oW 16 (.call (oF 44) [.t 12,.t 13,.t 14,.t 15]),oM 11 16,oX 17 11 0,oX 18 11 1,oM 1 17,oM 2 18]
 (oQ [oM 20 0,oM 21 2,oM 22 3,oM 23 4,oW 24 (.call (oF 44) [.t 20,.t 21,.t 22,.t 23]),oM 19 24,oX 25 19 0,oX 26 19 1,oM 2 25,oM 3 26]
 (oQ [oM 28 0,oM 29 1,oM 30 2,oM 31 4,oW 32 (.call (oF 44) [.t 28,.t 29,.t 30,.t 31]),oM 27 32,oX 33 27 0,oX 34 27 1,oM 1 33,oM 2 34]
 (oQ [oM 35 2,oM 10 35]
 .ret)))))}
theorem c42:compFunc Try.prog Try.f42 .full=some t42:=by kernel_rfl
def t43:DFunc:={ntmps:=6,results:=[.t 2],mode:=.pure,body :=
 (oQ [oW 2 (.move (oB false))]
 (oQ [oM 3 0,oM 4 0,oW 5 (.arith .neq (.t 3) (.t 4)),oM 2 5]
 .ret))}
theorem c43:compFunc Try.prog Try.f43 .pure=some t43:=by kernel_rfl
def t44:DFunc:={ntmps:=28,results:=[.t 8,.t 9],mode:=.pure,body :=
 (oQ [oW 8 (.move (oI 0)),oW 9 (.move (oI 0))]
 (.seq (.seq (.draw [oRM 10 0,oRM 11 2,oR 12 (.indexAddr 1 (.t 10) (.t 11)),oRD 13 12,oRM 14 0,oRM 15 1,oR 16 (.indexAddr 1 (.t 14) (.t 15)),oRD 17 16,oW 18 (.call (oF 33) [.t 13,.t 17])])
 (.cond (.t 18) (oQ [oM 19 3,oW 20 (.nilCheck (.t 19)),oD 21 20,oW 22 (.arith .add (.t 21) (oI 1)),oW 23 (.nilCheck (.t 19)),oS 1 23 22]
 (oQ [oM 24 2,oM 25 1,oM 8 24,oM 9 25]
 .ret)) .skip))
 (oQ [oM 26 1,oM 27 2,oM 8 26,oM 9 27]
 .ret)))}
theorem c44:compFunc Try.prog Try.f44 .pure=some t44:=by kernel_rfl
end Go.Dm.Tc
