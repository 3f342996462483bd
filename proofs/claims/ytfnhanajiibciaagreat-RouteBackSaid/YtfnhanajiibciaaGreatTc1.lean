/-
The table of functions, brought into the machine's form (Tc, part 1). Written by program (wip/tools/table.lean.txt).
-/
import Derived.Test.YtfnhanajiibciaaGreatTc0
import Derived.Test.YtfnhanajiibciaaGreatMm3
import Derived.Test.YtfnhanajiibciaaGreatRows
import Derived.KernelRfl
namespace Go.Dm.Tc
open Go.Proofs
def t68:DFunc:={ ntmps:=44,results:=[(.cell 4 (some 5))],mode:=.pure,body :=
 (oQ [oW 4 (.alloc 62 5 (.agg [(.str []),(.int .i64 0),(.int .i64 0),(.int .i64 0),(.str [])]))]
 (oQ [oM 6 0,oW 7 (.build [(.str []),(.int .i64 0),(.int .i64 0),(.int .i64 0),(.str [])] [(0,1,.t 6)]),oW 5 (.alloc 62 5 (.agg [(.str []),(.int .i64 0),(.int .i64 0),(.int .i64 0),(.str [])])),oS 5 5 7]
 (.seq (oQ [oM 8 1,oW 9 (.call (oF 16) [.t 8,oI 0,oI 3])]
 (.block 0 (.seq (oQ [oW 19 (.arith .eql (.t 9) (oI 0)),oM 18 19]
 (.cond (.t 18) .skip (.region [oW 20 (.arith .eql (.t 9) (oI 1)),oM 18 20])))
 (.cond (.t 18) (oQ [oM 21 1,oW 22 (.arith .quo (.t 21) (oI 4)),oW 23 (.call (oF 16) [.t 22,oI 0,oI 9]),oA 24 1 5,oZ (.store 1 (.t 24) (oI 1)),oA 25 2 5,oS 1 25 23]
 (.draw [oRA 26 2 5,oRD 27 26,oRM 28 1,oR 29 (.arith .quo (.t 28) (oI 40)),nK 30 (.call (oF 16) [.t 29,oI 0,oI 9]) .create 0,nK 31 (.arith .add (.t 27) (.t 30)) .read 1,nK 32 (.fieldAddr 3 (.t 5)) .read 1,⟨none,.store 1 (.t 32) (.t 31),none,.write,1,false⟩])) (oQ [oW 34 (.arith .eql (.t 9) (oI 2)),oM 33 34]
 (.cond (.t 33) (.draw [oW 35 (.call (oF 136) []),oRM 36 1,oR 37 (.arith .quo (.t 36) (oI 4)),nK 38 (.call (oF 16) [.t 37,oI 0,oI 6]) .write 1,nK 39 (.indexAddr 1 (.t 35) (.t 38)) .read 2,nK 40 (.load none (.t 39)) .read 2,oRA 41 1 5,⟨none,.store 1 (.t 41) (oI 2),none,.create,2,false⟩,nK 42 (.fieldAddr 4 (.t 5)) .read 3,⟨none,.store 1 (.t 42) (.t 40),none,.write,3,false⟩]) (.draw [oW 10 (.call (oF 136) []),oRM 11 1,oR 12 (.arith .quo (.t 11) (oI 4)),nK 13 (.call (oF 16) [.t 12,oI 0,oI 6]) .write 1,nK 14 (.indexAddr 1 (.t 10) (.t 13)) .read 2,nK 15 (.load none (.t 14)) .read 2,oRA 16 1 5,⟨none,.store 1 (.t 16) (oI 3),none,.create,2,false⟩,nK 17 (.fieldAddr 4 (.t 5)) .read 3,⟨none,.store 1 (.t 17) (.t 15),none,.write,3,false⟩])))))))
 (oQ [oL 43 5 5,oS 5 4 43]
 .ret)))) }
theorem c68:compFunc Tryz.prog Tryz.f68 .pure=some t68:=by kernel_rfl
def t69:DFunc:={ ntmps:=15,results:=[.t 4],mode:=.pure,body :=
 (oQ [oW 4 (.move (oI 0))]
 (.seq (oQ [oM 5 0,oW 6 (.len 1 (.t 5)),oW 7 (.arith .eql (.t 6) (oI 0))]
 (.cond (.t 7) (oQ [oW 4 (.move (oI 0))]
 .ret) .skip))
 (oQ [oM 8 0,oM 9 1,oM 10 0,oW 11 (.len 1 (.t 10)),oW 12 (.arith .rem (.t 9) (.t 11)),oW 13 (.indexAddr 1 (.t 8) (.t 12)),oD 14 13,oM 4 14]
 .ret))) }
theorem c69:compFunc Tryz.prog Tryz.f69 .pure=some t69:=by kernel_rfl
def t70:DFunc:={ ntmps:=24,results:=[(.cell 2 (some 6))],mode:=.full,body :=
 (oQ [oW 1 (.box 29 6 (.t 0)),oW 2 (.alloc 29 6 (.agg [(.int .i64 0),.nsl,.nsl,.nsl,.nsl,.nsl]))]
 (.seq (.draw [oRA 3 1 1,oRD 4 3,nK 5 (.call (oF 64) [.t 4]) .create 0,oRA 6 2 1,oRD 7 6,nK 8 (.call (oF 137) [.t 7]) .create 0,oRA 9 3 1,oRD 10 9,nK 11 (.call (oF 138) [.t 10]) .create 0,oRA 12 4 1,oRD 13 12,nK 14 (.call (oF 112) [.t 13]) .create 0,oRA 15 5 1,oRD 16 15,nK 17 (.call (oF 126) [.t 16]) .write 4,nK 18 (.fieldAddr 1 (.t 1)) .read 1,⟨none,.store 1 (.t 18) (.t 5),none,.write,5,false⟩,nK 19 (.fieldAddr 2 (.t 1)) .read 6,⟨none,.store 1 (.t 19) (.t 8),none,.write,6,false⟩,nK 20 (.fieldAddr 3 (.t 1)) .read 7,⟨none,.store 1 (.t 20) (.t 11),none,.write,7,false⟩,nK 21 (.fieldAddr 4 (.t 1)) .read 8,⟨none,.store 1 (.t 21) (.t 14),none,.write,8,false⟩,nK 22 (.fieldAddr 5 (.t 1)) .read 9,⟨none,.store 1 (.t 22) (.t 17),none,.write,9,false⟩])
 (oQ [oL 23 6 1,oS 6 2 23]
 .ret))) }
theorem c70:compFunc Tryz.prog Tryz.f70 .full=some t70:=by kernel_rfl
def t71:DFunc:={ ntmps:=12,results:=[.t 4,.t 5],mode:=.pure,body :=
 (oQ [oW 2 (.box 29 6 (.t 0)),oW 3 (.box 37 2 (.t 1)),oW 4 (.move (oI 0)),oW 5 (.move (oB false))]
 (oQ [oA 6 3 2,oD 7 6,oL 8 2 3,oW 9 (.call (oF 139) [.t 7,.t 8,oF 101]),oX 10 9 0,oX 11 9 1,oM 4 10,oM 5 11]
 .ret)) }
theorem c71:compFunc Tryz.prog Tryz.f71 .pure=some t71:=by kernel_rfl
def t72:DFunc:={ ntmps:=12,results:=[.t 4,.t 5],mode:=.pure,body :=
 (oQ [oW 2 (.box 29 6 (.t 0)),oW 3 (.box 37 2 (.t 1)),oW 4 (.move (oI 0)),oW 5 (.move (oB false))]
 (oQ [oA 6 2 2,oD 7 6,oL 8 2 3,oW 9 (.call (oF 140) [.t 7,.t 8,oF 141]),oX 10 9 0,oX 11 9 1,oM 4 10,oM 5 11]
 .ret)) }
theorem c72:compFunc Tryz.prog Tryz.f72 .pure=some t72:=by kernel_rfl
def t73:DFunc:={ ntmps:=95,results:=[.t 6],mode:=.split,body :=
 (oQ [oW 6 (.move (.c .nsl))]
 (oQ [oM 10 0,oM 11 1,oW 12 (.sliceSl 4 (.t 10) (some (.t 11)) none)]
 (oQ [oM 13 2,oW 14 (.len 1 (.t 13)),oM 7 14]
 (.seq (oQ [oM 15 7,oW 16 (.arith .eql (.t 15) (oI 0))]
 (.cond (.t 16) (oQ [oM 17 0,oM 6 17]
 .ret) .skip))
 (oQ [oM 18 0,oW 19 (.len 1 (.t 18)),oM 8 19]
 (.seq (oQ [oM 20 1,oM 21 8,oW 22 (.arith .eql (.t 20) (.t 21))]
 (.cond (.t 22) (oQ [oM 23 0,oM 24 2,oW 25 (.append 42 4 48 (.t 23) (.t 24)),oM 6 25]
 .ret) .skip))
 (.seq (oQ [oM 26 8,oM 27 7,oW 28 (.arith .add (.t 26) (.t 27)),oM 29 0,oW 30 (.cap (.t 29)),oW 31 (.arith .gtr (.t 28) (.t 30))]
 (.cond (.t 31) (oQ [oM 32 0,oM 33 1,oW 34 (.sliceSl 4 (.t 32) none (some (.t 33))),oM 35 8,oM 36 7,oW 37 (.arith .add (.t 35) (.t 36)),oM 38 1,oW 39 (.arith .sub (.t 37) (.t 38)),oW 40 (.appendZ 42 4 48 (.agg [(.int .i64 0),(.int .i64 0),.nsl,(.int .i64 0)]) (.t 34) (.t 39)),oM 9 40]
 (oQ [oM 41 9,oM 42 1,oW 43 (.sliceSl 4 (.t 41) (some (.t 42)) none),oM 44 2,oW 45 (.copy 4 (.t 43) (.t 44))]
 (.seq (.draw [oRM 46 9,oRM 47 1,oRM 48 7,oR 49 (.arith .add (.t 47) (.t 48)),oR 50 (.sliceSl 4 (.t 46) (some (.t 49)) none),oRM 51 0,oRM 52 1,oR 53 (.sliceSl 4 (.t 51) (some (.t 52)) none),oW 54 (.copy 4 (.t 50) (.t 53))])
 (oQ [oM 55 9,oM 6 55]
 .ret)))) .skip))
 (oQ [oM 56 0,oM 57 8,oM 58 7,oW 59 (.arith .add (.t 57) (.t 58)),oW 60 (.sliceSl 4 (.t 56) none (some (.t 59))),oM 0 60]
 (.seq (oQ [oM 61 2,oM 62 0,oM 63 1,oM 64 7,oW 65 (.arith .add (.t 63) (.t 64)),oW 66 (.sliceSl 4 (.t 62) (some (.t 65)) none),oW 67 (.call (oF 142) [.t 61,.t 66]),oW 68 (.un .not (.t 67))]
 (.cond (.t 68) (.seq (.draw [oRM 69 0,oRM 70 1,oRM 71 7,oR 72 (.arith .add (.t 70) (.t 71)),oR 73 (.sliceSl 4 (.t 69) (some (.t 72)) none),oRM 74 0,oRM 75 1,oR 76 (.sliceSl 4 (.t 74) (some (.t 75)) none),oW 77 (.copy 4 (.t 73) (.t 76))])
 (oQ [oM 78 0,oM 79 1,oW 80 (.sliceSl 4 (.t 78) (some (.t 79)) none),oM 81 2,oW 82 (.copy 4 (.t 80) (.t 81))]
 (oQ [oM 83 0,oM 6 83]
 .ret))) .skip))
 (oQ [oM 84 0,oM 85 8,oW 86 (.sliceSl 4 (.t 84) (some (.t 85)) none),oM 87 2,oW 88 (.copy 4 (.t 86) (.t 87))]
 (oQ [oM 89 0,oM 90 1,oW 91 (.sliceSl 4 (.t 89) (some (.t 90)) none),oM 92 7,oW 93 (.call (oF 143) [.t 91,.t 92])]
 (oQ [oM 94 0,oM 6 94]
 .ret)))))))))))) }
theorem c73:compFunc Tryz.prog Tryz.f73 .split=some t73:=by kernel_rfl
def t74:DFunc:={ ntmps:=95,results:=[.t 6],mode:=.split,body :=
 (oQ [oW 6 (.move (.c .nsl))]
 (oQ [oM 10 0,oM 11 1,oW 12 (.sliceSl 2 (.t 10) (some (.t 11)) none)]
 (oQ [oM 13 2,oW 14 (.len 1 (.t 13)),oM 7 14]
 (.seq (oQ [oM 15 7,oW 16 (.arith .eql (.t 15) (oI 0))]
 (.cond (.t 16) (oQ [oM 17 0,oM 6 17]
 .ret) .skip))
 (oQ [oM 18 0,oW 19 (.len 1 (.t 18)),oM 8 19]
 (.seq (oQ [oM 20 1,oM 21 8,oW 22 (.arith .eql (.t 20) (.t 21))]
 (.cond (.t 22) (oQ [oM 23 0,oM 24 2,oW 25 (.append 37 2 16 (.t 23) (.t 24)),oM 6 25]
 .ret) .skip))
 (.seq (oQ [oM 26 8,oM 27 7,oW 28 (.arith .add (.t 26) (.t 27)),oM 29 0,oW 30 (.cap (.t 29)),oW 31 (.arith .gtr (.t 28) (.t 30))]
 (.cond (.t 31) (oQ [oM 32 0,oM 33 1,oW 34 (.sliceSl 2 (.t 32) none (some (.t 33))),oM 35 8,oM 36 7,oW 37 (.arith .add (.t 35) (.t 36)),oM 38 1,oW 39 (.arith .sub (.t 37) (.t 38)),oW 40 (.appendZ 37 2 16 (.agg [(.int .i64 0),(.int .i64 0)]) (.t 34) (.t 39)),oM 9 40]
 (oQ [oM 41 9,oM 42 1,oW 43 (.sliceSl 2 (.t 41) (some (.t 42)) none),oM 44 2,oW 45 (.copy 2 (.t 43) (.t 44))]
 (.seq (.draw [oRM 46 9,oRM 47 1,oRM 48 7,oR 49 (.arith .add (.t 47) (.t 48)),oR 50 (.sliceSl 2 (.t 46) (some (.t 49)) none),oRM 51 0,oRM 52 1,oR 53 (.sliceSl 2 (.t 51) (some (.t 52)) none),oW 54 (.copy 2 (.t 50) (.t 53))])
 (oQ [oM 55 9,oM 6 55]
 .ret)))) .skip))
 (oQ [oM 56 0,oM 57 8,oM 58 7,oW 59 (.arith .add (.t 57) (.t 58)),oW 60 (.sliceSl 2 (.t 56) none (some (.t 59))),oM 0 60]
 (.seq (oQ [oM 61 2,oM 62 0,oM 63 1,oM 64 7,oW 65 (.arith .add (.t 63) (.t 64)),oW 66 (.sliceSl 2 (.t 62) (some (.t 65)) none),oW 67 (.call (oF 144) [.t 61,.t 66]),oW 68 (.un .not (.t 67))]
 (.cond (.t 68) (.seq (.draw [oRM 69 0,oRM 70 1,oRM 71 7,oR 72 (.arith .add (.t 70) (.t 71)),oR 73 (.sliceSl 2 (.t 69) (some (.t 72)) none),oRM 74 0,oRM 75 1,oR 76 (.sliceSl 2 (.t 74) (some (.t 75)) none),oW 77 (.copy 2 (.t 73) (.t 76))])
 (oQ [oM 78 0,oM 79 1,oW 80 (.sliceSl 2 (.t 78) (some (.t 79)) none),oM 81 2,oW 82 (.copy 2 (.t 80) (.t 81))]
 (oQ [oM 83 0,oM 6 83]
 .ret))) .skip))
 (oQ [oM 84 0,oM 85 8,oW 86 (.sliceSl 2 (.t 84) (some (.t 85)) none),oM 87 2,oW 88 (.copy 2 (.t 86) (.t 87))]
 (oQ [oM 89 0,oM 90 1,oW 91 (.sliceSl 2 (.t 89) (some (.t 90)) none),oM 92 7,oW 93 (.call (oF 145) [.t 91,.t 92])]
 (oQ [oM 94 0,oM 6 94]
 .ret)))))))))))) }
theorem c74:compFunc Tryz.prog Tryz.f74 .split=some t74:=by kernel_rfl
def t75l0:DCode :=
 (oQ [oW 11 (.arith .lss (.t 10) (.t 9))]
 (.seq (.cond (.t 11) .skip (.exit 0))
 (.seq (.block 1 (oQ [oW 12 (.indexAddr 2 (.t 8) (.t 10)),oL 13 2 12,oW 6 (.alloc 37 2 (.agg [(.int .i64 0),(.int .i64 0)])),oS 2 6 13]
 (oQ [oL 14 2 6,oL 15 2 3,oW 16 (.eqa false [1,1] (.t 14) (.t 15))]
 (.cond (.t 16) (oQ [oW 4 (.move (oB true))]
 .ret) .skip))))
 (.region [oW 17 (.arith .add (.t 10) (oI 1)),oM 10 17]))))
def t75k0:DCode :=
 (oQ [oW 4 (.move (oB false))]
 .ret)
def t75:DFunc:={ ntmps:=18,results:=[.t 4],mode:=.pure,body :=
 (oQ [oW 2 (.box 29 6 (.t 0)),oW 3 (.box 37 2 (.t 1)),oW 4 (.move (oB false))]
 (.seq (oQ [oA 7 3 2,oD 8 7,oW 9 (.len 1 (.t 8)),oW 10 (.move (oI 0))]
 (.block 0 (.loop t75l0)))
 t75k0)) }
theorem c75:compFunc Tryz.prog Tryz.f75 .pure=some t75:=by kernel_rfl
def t76:DFunc:={ ntmps:=24,results:=[.t 4],mode:=.pure,body :=
 (oQ [oW 2 (.box 37 2 (.t 0)),oW 3 (.box 37 2 (.t 1)),oW 4 (.move (oB false))]
 (oQ [oA 5 0 2,oD 6 5,oA 7 0 3,oD 8 7,oW 9 (.arith .lss (.t 6) (.t 8)),oM 10 9,gA 11 0 2 10 false,gD 12 11 10 false,gA 13 0 3 10 false,gD 14 13 10 false,gW 15 (.arith .eql (.t 12) (.t 14)) 10 false,gM 16 15 10 false,gA 17 1 2 16 true,gD 18 17 16 true,gA 19 1 3 16 true,gD 20 19 16 true,gW 21 (.arith .lss (.t 18) (.t 20)) 16 true,gW 22 (.pick (.t 16) (.t 21) (oB false)) 10 false,oW 23 (.pick (.t 10) (oB true) (.t 22)),oM 4 23]
 .ret)) }
theorem c76:compFunc Tryz.prog Tryz.f76 .pure=some t76:=by kernel_rfl
def t82l0:DCode :=
 (oQ [oW 14 (.arith .lss (.t 13) (.t 12))]
 (.seq (.cond (.t 14) .skip (.exit 0))
 (.seq (.block 1 (oQ [oM 15 13,oM 5 15]
 (.seq (.draw [oRM 16 0,oRM 17 5,oR 18 (.indexAddr 1 (.t 16) (.t 17)),oRD 19 18,oRM 20 1,oRM 21 5,oR 22 (.indexAddr 1 (.t 20) (.t 21)),oRD 23 22,oR 24 (.arith .neq (.t 19) (.t 23))])
 (.cond (.t 24) (oQ [oW 4 (.move (oB false))]
 .ret) .skip))))
 (.region [oW 25 (.arith .add (.t 13) (oI 1)),oM 13 25]))))
def t82k0:DCode :=
 (oQ [oW 4 (.move (oB true))]
 .ret)
def t82:DFunc:={ ntmps:=26,results:=[.t 4],mode:=.pure,body :=
 (oQ [oW 4 (.move (oB false))]
 (.seq (oQ [oM 6 0,oW 7 (.len 1 (.t 6)),oM 8 1,oW 9 (.len 1 (.t 8)),oW 10 (.arith .neq (.t 7) (.t 9))]
 (.cond (.t 10) (oQ [oW 4 (.move (oB false))]
 .ret) .skip))
 (.seq (oQ [oM 11 0,oW 12 (.len 1 (.t 11)),oW 13 (.move (oI 0))]
 (.block 0 (.loop t82l0)))
 t82k0))) }
theorem c82:compFunc Tryz.prog Tryz.f82 .pure=some t82:=by kernel_rfl
def t83l0:DCode :=
 (oQ [oW 14 (.arith .lss (.t 13) (.t 12))]
 (.seq (.cond (.t 14) .skip (.exit 0))
 (.seq (.block 1 (oQ [oM 15 13,oM 5 15]
 (.seq (.draw [oRM 16 0,oRM 17 5,oR 18 (.indexAddr 2 (.t 16) (.t 17)),oRL 19 2 18,oRM 20 1,oRM 21 5,oR 22 (.indexAddr 2 (.t 20) (.t 21)),oRL 23 2 22,oR 24 (.eqa true [1,1] (.t 19) (.t 23))])
 (.cond (.t 24) (oQ [oW 4 (.move (oB false))]
 .ret) .skip))))
 (.region [oW 25 (.arith .add (.t 13) (oI 1)),oM 13 25]))))
def t83k0:DCode :=
 (oQ [oW 4 (.move (oB true))]
 .ret)
def t83:DFunc:={ ntmps:=26,results:=[.t 4],mode:=.pure,body :=
 (oQ [oW 4 (.move (oB false))]
 (.seq (oQ [oM 6 0,oW 7 (.len 1 (.t 6)),oM 8 1,oW 9 (.len 1 (.t 8)),oW 10 (.arith .neq (.t 7) (.t 9))]
 (.cond (.t 10) (oQ [oW 4 (.move (oB false))]
 .ret) .skip))
 (.seq (oQ [oM 11 0,oW 12 (.len 1 (.t 11)),oW 13 (.move (oI 0))]
 (.block 0 (.loop t83l0)))
 t83k0))) }
theorem c83:compFunc Tryz.prog Tryz.f83 .pure=some t83:=by kernel_rfl
def t84l0:DCode :=
 (oQ [oW 18 (.arith .lss (.t 17) (.t 16))]
 (.seq (.cond (.t 18) .skip (.exit 0))
 (.seq (.block 1 (oQ [oM 19 17,oW 20 (.indexAddr 4 (.t 15) (.t 17)),oL 21 4 20,oW 8 (.alloc 42 4 (.agg [(.int .i64 0),(.int .i64 0),.nsl,(.int .i64 0)])),oM 7 19,oS 4 8 21]
 (oQ [oM 22 1,oM 23 7,oW 24 (.indexAddr 4 (.t 22) (.t 23)),oL 25 4 24,oW 9 (.alloc 42 4 (.agg [(.int .i64 0),(.int .i64 0),.nsl,(.int .i64 0)])),oS 4 9 25]
 (oQ [oM 26 2,oL 27 4 8,oL 28 4 9,oW 29 (.call (.t 26) [.t 27,.t 28]),oW 30 (.un .not (.t 29))]
 (.cond (.t 30) (oQ [oW 6 (.move (oB false))]
 .ret) .skip)))))
 (.region [oW 31 (.arith .add (.t 17) (oI 1)),oM 17 31]))))
def t84k0:DCode :=
 (oQ [oW 6 (.move (oB true))]
 .ret)
def t84:DFunc:={ ntmps:=32,results:=[.t 6],mode:=.pure,body :=
 (oQ [oW 6 (.move (oB false))]
 (.seq (oQ [oM 10 0,oW 11 (.len 1 (.t 10)),oM 12 1,oW 13 (.len 1 (.t 12)),oW 14 (.arith .neq (.t 11) (.t 13))]
 (.cond (.t 14) (oQ [oW 6 (.move (oB false))]
 .ret) .skip))
 (.seq (oQ [oM 15 0,oW 16 (.len 1 (.t 15)),oW 17 (.move (oI 0))]
 (.block 0 (.loop t84l0)))
 t84k0))) }
theorem c84:compFunc Tryz.prog Tryz.f84 .pure=some t84:=by kernel_rfl
def t85:DFunc:={ ntmps:=24,results:=[.t 4],mode:=.pure,body :=
 (oQ [oW 2 (.box 42 4 (.t 0)),oW 3 (.box 42 4 (.t 1)),oW 4 (.move (oB false))]
 (oQ [oA 5 0 2,oL 6 2 5,oA 7 0 3,oL 8 2 7,oW 9 (.eqa false [1,1] (.t 6) (.t 8)),oM 10 9,gA 11 3 2 10 true,gD 12 11 10 true,gA 13 3 3 10 true,gD 14 13 10 true,gW 15 (.arith .eql (.t 12) (.t 14)) 10 true,oW 16 (.pick (.t 10) (.t 15) (oB false)),oM 17 16,gA 18 2 2 17 true,gD 19 18 17 true,gA 20 2 3 17 true,gD 21 20 17 true,gW 22 (.call (oF 86) [.t 19,.t 21]) 17 true,oW 23 (.pick (.t 17) (.t 22) (oB false)),oM 4 23]
 .ret)) }
theorem c85:compFunc Tryz.prog Tryz.f85 .pure=some t85:=by kernel_rfl
def t86:DFunc:={ ntmps:=8,results:=[.t 4],mode:=.pure,body :=
 (oQ [oW 4 (.move (oB false))]
 (oQ [oM 5 0,oM 6 1,oW 7 (.call (oF 147) [.t 5,.t 6]),oM 4 7]
 .ret)) }
theorem c86:compFunc Tryz.prog Tryz.f86 .pure=some t86:=by kernel_rfl
def t87l0:DCode :=
 (oQ [oW 18 (.arith .lss (.t 17) (.t 16))]
 (.seq (.cond (.t 18) .skip (.exit 0))
 (.seq (.block 1 (oQ [oM 19 17,oW 20 (.indexAddr 7 (.t 15) (.t 17)),oL 21 7 20,oW 8 (.alloc 58 7 (.agg [(.int .i64 0),(.int .i64 0),(.int .i64 0),(.int .i64 0),.nsl,(.int .i64 0),(.bool false)])),oM 7 19,oS 7 8 21]
 (oQ [oM 22 1,oM 23 7,oW 24 (.indexAddr 7 (.t 22) (.t 23)),oL 25 7 24,oW 9 (.alloc 58 7 (.agg [(.int .i64 0),(.int .i64 0),(.int .i64 0),(.int .i64 0),.nsl,(.int .i64 0),(.bool false)])),oS 7 9 25]
 (oQ [oM 26 2,oL 27 7 8,oL 28 7 9,oW 29 (.call (.t 26) [.t 27,.t 28]),oW 30 (.un .not (.t 29))]
 (.cond (.t 30) (oQ [oW 6 (.move (oB false))]
 .ret) .skip)))))
 (.region [oW 31 (.arith .add (.t 17) (oI 1)),oM 17 31]))))
def t87k0:DCode :=
 (oQ [oW 6 (.move (oB true))]
 .ret)
def t87:DFunc:={ ntmps:=32,results:=[.t 6],mode:=.pure,body :=
 (oQ [oW 6 (.move (oB false))]
 (.seq (oQ [oM 10 0,oW 11 (.len 1 (.t 10)),oM 12 1,oW 13 (.len 1 (.t 12)),oW 14 (.arith .neq (.t 11) (.t 13))]
 (.cond (.t 14) (oQ [oW 6 (.move (oB false))]
 .ret) .skip))
 (.seq (oQ [oM 15 0,oW 16 (.len 1 (.t 15)),oW 17 (.move (oI 0))]
 (.block 0 (.loop t87l0)))
 t87k0))) }
theorem c87:compFunc Tryz.prog Tryz.f87 .pure=some t87:=by kernel_rfl
def t88:DFunc:={ ntmps:=38,results:=[.t 4],mode:=.pure,body :=
 (oQ [oW 2 (.box 58 7 (.t 0)),oW 3 (.box 58 7 (.t 1)),oW 4 (.move (oB false))]
 (oQ [oA 5 0 2,oL 6 2 5,oA 7 0 3,oL 8 2 7,oW 9 (.eqa false [1,1] (.t 6) (.t 8)),oM 10 9,gA 11 2 2 10 true,gL 12 2 11 10 true,gA 13 2 3 10 true,gL 14 2 13 10 true,gW 15 (.eqa false [1,1] (.t 12) (.t 14)) 10 true,oW 16 (.pick (.t 10) (.t 15) (oB false)),oM 17 16,gA 18 5 2 17 true,gD 19 18 17 true,gA 20 5 3 17 true,gD 21 20 17 true,gW 22 (.arith .eql (.t 19) (.t 21)) 17 true,oW 23 (.pick (.t 17) (.t 22) (oB false)),oM 24 23,gA 25 6 2 24 true,gD 26 25 24 true,gA 27 6 3 24 true,gD 28 27 24 true,gW 29 (.eqb false (.t 26) (.t 28)) 24 true,oW 30 (.pick (.t 24) (.t 29) (oB false)),oM 31 30,gA 32 4 2 31 true,gD 33 32 31 true,gA 34 4 3 31 true,gD 35 34 31 true,gW 36 (.call (oF 86) [.t 33,.t 35]) 31 true,oW 37 (.pick (.t 31) (.t 36) (oB false)),oM 4 37]
 .ret)) }
theorem c88:compFunc Tryz.prog Tryz.f88 .pure=some t88:=by kernel_rfl
def t89l0:DCode :=
 (oQ [oW 18 (.arith .lss (.t 17) (.t 16))]
 (.seq (.cond (.t 18) .skip (.exit 0))
 (.seq (.block 1 (oQ [oM 19 17,oW 20 (.indexAddr 3 (.t 15) (.t 17)),oL 21 3 20,oW 8 (.alloc 60 3 (.agg [(.int .i64 0),(.int .i64 0),.nsl])),oM 7 19,oS 3 8 21]
 (oQ [oM 22 1,oM 23 7,oW 24 (.indexAddr 3 (.t 22) (.t 23)),oL 25 3 24,oW 9 (.alloc 60 3 (.agg [(.int .i64 0),(.int .i64 0),.nsl])),oS 3 9 25]
 (oQ [oM 26 2,oL 27 3 8,oL 28 3 9,oW 29 (.call (.t 26) [.t 27,.t 28]),oW 30 (.un .not (.t 29))]
 (.cond (.t 30) (oQ [oW 6 (.move (oB false))]
 .ret) .skip)))))
 (.region [oW 31 (.arith .add (.t 17) (oI 1)),oM 17 31]))))
def t89k0:DCode :=
 (oQ [oW 6 (.move (oB true))]
 .ret)
def t89:DFunc:={ ntmps:=32,results:=[.t 6],mode:=.pure,body :=
 (oQ [oW 6 (.move (oB false))]
 (.seq (oQ [oM 10 0,oW 11 (.len 1 (.t 10)),oM 12 1,oW 13 (.len 1 (.t 12)),oW 14 (.arith .neq (.t 11) (.t 13))]
 (.cond (.t 14) (oQ [oW 6 (.move (oB false))]
 .ret) .skip))
 (.seq (oQ [oM 15 0,oW 16 (.len 1 (.t 15)),oW 17 (.move (oI 0))]
 (.block 0 (.loop t89l0)))
 t89k0))) }
theorem c89:compFunc Tryz.prog Tryz.f89 .pure=some t89:=by kernel_rfl
def t90:DFunc:={ ntmps:=17,results:=[.t 4],mode:=.pure,body :=
 (oQ [oW 2 (.box 60 3 (.t 0)),oW 3 (.box 60 3 (.t 1)),oW 4 (.move (oB false))]
 (oQ [oA 5 0 2,oL 6 2 5,oA 7 0 3,oL 8 2 7,oW 9 (.eqa false [1,1] (.t 6) (.t 8)),oM 10 9,gA 11 2 2 10 true,gD 12 11 10 true,gA 13 2 3 10 true,gD 14 13 10 true,gW 15 (.call (oF 86) [.t 12,.t 14]) 10 true,oW 16 (.pick (.t 10) (.t 15) (oB false)),oM 4 16]
 .ret)) }
theorem c90:compFunc Tryz.prog Tryz.f90 .pure=some t90:=by kernel_rfl
def t100l0:DCode :=
 (oQ [oW 9 (.arith .lss (.t 8) (.t 7))]
 (.seq (.cond (.t 9) .skip (.exit 0))
 (.seq (.block 1 (oQ [oW 10 (.indexAddr 1 (.t 6) (.t 8)),oD 11 10,oM 5 11]
 (oQ [oM 12 5,oM 13 3,oW 14 (.arith .neq (.t 12) (.t 13))]
 (.cond (.t 14) (oQ [oM 15 5,oM 2 15]
 .ret) .skip))))
 (.region [oW 16 (.arith .add (.t 8) (oI 1)),oM 8 16]))))
def t100k0:DCode :=
 (oQ [oM 17 3,oM 2 17]
 .ret)
def t100:DFunc:={ ntmps:=18,results:=[.t 2],mode:=.pure,body :=
 (oQ [oW 2 (.move (oI 0))]
 (oQ [oW 3 (.move (oI 0))]
 (.seq (oQ [oM 6 0,oW 7 (.len 1 (.t 6)),oW 8 (.move (oI 0))]
 (.block 0 (.loop t100l0)))
 t100k0))) }
theorem c100:compFunc Tryz.prog Tryz.f100 .pure=some t100:=by kernel_rfl
def t101:DFunc:={ ntmps:=17,results:=[.t 4],mode:=.pure,body :=
 (oQ [oW 2 (.box 37 2 (.t 0)),oW 3 (.box 37 2 (.t 1)),oW 4 (.move (oI 0))]
 (.seq (.draw [oRA 5 0 2,oRD 6 5,oRA 7 0 3,oRD 8 7,nK 9 (.call (oF 148) [.t 6,.t 8]) .create 0,oRA 10 1 2,oRD 11 10,oRA 12 1 3,oRD 13 12,nK 14 (.call (oF 148) [.t 11,.t 13]) .write 1,nK 15 (.buildSlice 3 1 (.int .i64 0) 2 [(0,.t 9),(1,.t 14)]) .create 0,nK 16 (.call (oF 100) [.t 15]) .write 3,nK 4 (.move (.t 16)) .read 4])
 .ret)) }
theorem c101:compFunc Tryz.prog Tryz.f101 .pure=some t101:=by kernel_rfl
def t106:DFunc:={ ntmps:=9,results:=[.t 4],mode:=.pure,body :=
 (oQ [oW 4 (.move (oB false))]
 (oQ [oM 5 0,oM 6 1,oW 7 (.call (oF 146) [.t 5,.t 6]),oW 8 (.arith .geq (.t 7) (oI 0)),oM 4 8]
 .ret)) }
theorem c106:compFunc Tryz.prog Tryz.f106 .pure=some t106:=by kernel_rfl
def t111:DFunc:={ ntmps:=65,results:=[(.cell 6 (some 6)),.t 7,.t 8],mode:=.frz,body :=
 (oQ [oW 3 (.box 29 6 (.t 0)),oW 5 (.box 84 7 (.t 2)),oW 6 (.alloc 29 6 (.agg [(.int .i64 0),.nsl,.nsl,.nsl,.nsl,.nsl])),oW 7 (.move (.c .nsl)),oW 8 (.move (.c .nsl))]
 (oQ [oW 9 (.move (.c .nsl))]
 (oQ [oW 10 (.move (.c .nsl))]
 (.seq (oQ [oA 11 0 5,oD 12 11]
 (.block 0 (oQ [oW 14 (.arith .eql (.t 12) (oI 1)),oM 13 14]
 (.cond (.t 13) (.region [oL 16 6 3,oM 17 1,oA 18 1 5,oL 19 2 18,oA 20 5 5,oD 21 20,oW 22 (.call (oF 59) [.t 16,.t 17,.t 19,.t 21]),oM 15 22,oX 23 15 0,oX 24 15 1,oS 6 3 23,oM 9 24]) (oQ [oW 26 (.arith .eql (.t 12) (oI 2)),oM 25 26]
 (.cond (.t 25) (.region [oL 28 6 3,oM 29 1,oA 30 1 5,oL 31 2 30,oW 32 (.call (oF 58) [.t 28,.t 29,.t 31]),oM 27 32,oX 33 27 0,oX 34 27 1,oS 6 3 33,oM 9 34]) (oQ [oW 36 (.arith .eql (.t 12) (oI 3)),oM 35 36]
 (.cond (.t 35) (.region [oL 38 6 3,oM 39 1,oL 40 7 5,oW 41 (.call (oF 62) [.t 38,.t 39,.t 40]),oM 37 41,oX 42 37 0,oX 43 37 1,oS 6 3 42,oM 9 43]) (oQ [oW 45 (.arith .eql (.t 12) (oI 4)),oM 44 45]
 (.cond (.t 44) (.region [oL 47 6 3,oM 48 1,oL 49 7 5,oW 50 (.call (oF 63) [.t 47,.t 48,.t 49]),oM 46 50,oX 51 46 0,oX 52 46 1,oS 6 3 51,oM 9 52]) (oQ [oW 54 (.arith .eql (.t 12) (oI 5)),oM 53 54]
 (.cond (.t 53) (.region [oL 56 6 3,oM 57 1,oL 58 7 5,oW 59 (.call (oF 153) [.t 56,.t 57,.t 58]),oM 55 59,oX 60 55 0,oX 61 55 1,oM 9 60,oM 10 61]) .skip))))))))))))
 (oQ [oL 62 6 3,oM 63 9,oM 64 10,oS 6 6 62,oM 7 63,oM 8 64]
 .ret))))) }
theorem c111:compFunc Tryz.prog Tryz.f111 .frz=some t111:=by kernel_rfl
def t113:DFunc:={ ntmps:=15,results:=[.t 6,.t 7],mode:=.pure,body :=
 (oQ [oW 3 (.box 29 6 (.t 0)),oW 4 (.box 37 2 (.t 1)),oW 5 (.box 37 2 (.t 2)),oW 6 (.move (oI 0)),oW 7 (.move (oB false))]
 (oQ [oA 8 4 3,oD 9 8,oL 10 2 5,oW 11 (.makeFunc 155 [.t 4]),oW 12 (.call (oF 154) [.t 9,.t 10,.t 11]),oX 13 12 0,oX 14 12 1,oM 6 13,oM 7 14]
 .ret)) }
theorem c113:compFunc Tryz.prog Tryz.f113 .pure=some t113:=by kernel_rfl
def t114:DFunc:={ ntmps:=95,results:=[.t 6],mode:=.split,body :=
 (oQ [oW 6 (.move (.c .nsl))]
 (oQ [oM 10 0,oM 11 1,oW 12 (.sliceSl 7 (.t 10) (some (.t 11)) none)]
 (oQ [oM 13 2,oW 14 (.len 1 (.t 13)),oM 7 14]
 (.seq (oQ [oM 15 7,oW 16 (.arith .eql (.t 15) (oI 0))]
 (.cond (.t 16) (oQ [oM 17 0,oM 6 17]
 .ret) .skip))
 (oQ [oM 18 0,oW 19 (.len 1 (.t 18)),oM 8 19]
 (.seq (oQ [oM 20 1,oM 21 8,oW 22 (.arith .eql (.t 20) (.t 21))]
 (.cond (.t 22) (oQ [oM 23 0,oM 24 2,oW 25 (.append 58 7 72 (.t 23) (.t 24)),oM 6 25]
 .ret) .skip))
 (.seq (oQ [oM 26 8,oM 27 7,oW 28 (.arith .add (.t 26) (.t 27)),oM 29 0,oW 30 (.cap (.t 29)),oW 31 (.arith .gtr (.t 28) (.t 30))]
 (.cond (.t 31) (oQ [oM 32 0,oM 33 1,oW 34 (.sliceSl 7 (.t 32) none (some (.t 33))),oM 35 8,oM 36 7,oW 37 (.arith .add (.t 35) (.t 36)),oM 38 1,oW 39 (.arith .sub (.t 37) (.t 38)),oW 40 (.appendZ 58 7 72 (.agg [(.int .i64 0),(.int .i64 0),(.int .i64 0),(.int .i64 0),.nsl,(.int .i64 0),(.bool false)]) (.t 34) (.t 39)),oM 9 40]
 (oQ [oM 41 9,oM 42 1,oW 43 (.sliceSl 7 (.t 41) (some (.t 42)) none),oM 44 2,oW 45 (.copy 7 (.t 43) (.t 44))]
 (.seq (.draw [oRM 46 9,oRM 47 1,oRM 48 7,oR 49 (.arith .add (.t 47) (.t 48)),oR 50 (.sliceSl 7 (.t 46) (some (.t 49)) none),oRM 51 0,oRM 52 1,oR 53 (.sliceSl 7 (.t 51) (some (.t 52)) none),oW 54 (.copy 7 (.t 50) (.t 53))])
 (oQ [oM 55 9,oM 6 55]
 .ret)))) .skip))
 (oQ [oM 56 0,oM 57 8,oM 58 7,oW 59 (.arith .add (.t 57) (.t 58)),oW 60 (.sliceSl 7 (.t 56) none (some (.t 59))),oM 0 60]
 (.seq (oQ [oM 61 2,oM 62 0,oM 63 1,oM 64 7,oW 65 (.arith .add (.t 63) (.t 64)),oW 66 (.sliceSl 7 (.t 62) (some (.t 65)) none),oW 67 (.call (oF 156) [.t 61,.t 66]),oW 68 (.un .not (.t 67))]
 (.cond (.t 68) (.seq (.draw [oRM 69 0,oRM 70 1,oRM 71 7,oR 72 (.arith .add (.t 70) (.t 71)),oR 73 (.sliceSl 7 (.t 69) (some (.t 72)) none),oRM 74 0,oRM 75 1,oR 76 (.sliceSl 7 (.t 74) (some (.t 75)) none),oW 77 (.copy 7 (.t 73) (.t 76))])
 (oQ [oM 78 0,oM 79 1,oW 80 (.sliceSl 7 (.t 78) (some (.t 79)) none),oM 81 2,oW 82 (.copy 7 (.t 80) (.t 81))]
 (oQ [oM 83 0,oM 6 83]
 .ret))) .skip))
 (oQ [oM 84 0,oM 85 8,oW 86 (.sliceSl 7 (.t 84) (some (.t 85)) none),oM 87 2,oW 88 (.copy 7 (.t 86) (.t 87))]
 (oQ [oM 89 0,oM 90 1,oW 91 (.sliceSl 7 (.t 89) (some (.t 90)) none),oM 92 7,oW 93 (.call (oF 157) [.t 91,.t 92])]
 (oQ [oM 94 0,oM 6 94]
 .ret)))))))))))) }
theorem c114:compFunc Tryz.prog Tryz.f114 .split=some t114:=by kernel_rfl
def t116:DFunc:={ ntmps:=33,results:=[.t 6],mode:=.full,body :=
 (oQ [oW 6 (.move (.c .nsl))]
 (oQ [oM 8 0,oM 9 1,oM 10 2,oM 11 0,oW 12 (.len 1 (.t 11)),oW 13 (.slice3 (.t 8) (.t 9) (.t 10) (.t 12))]
 (.seq (oQ [oM 14 1,oM 15 2,oW 16 (.arith .eql (.t 14) (.t 15))]
 (.cond (.t 16) (oQ [oM 17 0,oM 6 17]
 .ret) .skip))
 (oQ [oM 18 0,oW 19 (.len 1 (.t 18)),oM 7 19]
 (.seq (.draw [oRM 20 0,oRM 21 1,oR 22 (.sliceSl 7 (.t 20) none (some (.t 21))),oRM 23 0,oRM 24 2,oR 25 (.sliceSl 7 (.t 23) (some (.t 24)) none),oW 26 (.append 58 7 72 (.t 22) (.t 25)),nK 0 (.move (.t 26)) .read 1])
 (oQ [oM 27 0,oM 28 0,oW 29 (.len 1 (.t 28)),oM 30 7,oW 31 (.sliceSl 7 (.t 27) (some (.t 29)) (some (.t 30))),oZ (.clear 7 (.agg [(.int .i64 0),(.int .i64 0),(.int .i64 0),(.int .i64 0),.nsl,(.int .i64 0),(.bool false)]) (.t 31))]
 (oQ [oM 32 0,oM 6 32]
 .ret))))))) }
theorem c116:compFunc Tryz.prog Tryz.f116 .full=some t116:=by kernel_rfl
def t117:DFunc:={ ntmps:=12,results:=[.t 3],mode:=.pure,body :=
 (oQ [oW 2 (.box 58 7 (.t 0)),oW 3 (.move (oB false))]
 (oQ [oA 4 6 2,oD 5 4,oM 6 5,gA 7 4 2 6 true,gD 8 7 6 true,gD 9 1 6 true,gW 10 (.call (oF 54) [.t 8,.t 9]) 6 true,oW 11 (.pick (.t 6) (.t 10) (oB false)),oM 3 11]
 .ret)) }
theorem c117:compFunc Tryz.prog Tryz.f117 .pure=some t117:=by kernel_rfl
def t118l0:DCode :=
 (oQ [oW 19 (.arith .lss (.t 18) (.t 17))]
 (.seq (.cond (.t 19) .skip (.exit 2))
 (.seq (.block 3 (oQ [oW 20 (.indexAddr 5 (.t 16) (.t 18)),oL 21 5 20,oW 9 (.alloc 62 5 (.agg [(.str []),(.int .i64 0),(.int .i64 0),(.int .i64 0),(.str [])])),oS 5 9 21]
 (.region [oM 22 7,oM 23 22,gA 24 0 9 23 false,gD 25 24 23 false,gA 26 0 6 23 false,gD 27 26 23 false,gW 28 (.arith .eql (.t 25) (.t 27)) 23 false,gM 29 28 23 false,gL 30 5 9 29 true,gL 31 5 6 29 true,gW 32 (.call (oF 158) [.t 30,.t 31]) 29 true,gW 33 (.pick (.t 29) (.t 32) (oB false)) 23 false,oW 34 (.pick (.t 23) (oB true) (.t 33)),oM 7 34])))
 (.region [oW 35 (.arith .add (.t 18) (oI 1)),oM 18 35]))))
def t118k0:DCode :=
 (oQ [oM 36 7,oW 37 (.un .not (.t 36))]
 (.cond (.t 37) (oQ [oW 4 (.move (oB false))]
 .ret) .skip))
def t118k1:DCode :=
 (.region [oW 38 (.arith .add (.t 12) (oI 1)),oM 12 38])
def t118l1:DCode :=
 (oQ [oW 13 (.arith .lss (.t 12) (.t 11))]
 (.seq (.cond (.t 13) .skip (.exit 0))
 (.seq (.block 1 (oQ [oW 14 (.indexAddr 5 (.t 10) (.t 12)),oL 15 5 14,oW 6 (.alloc 62 5 (.agg [(.str []),(.int .i64 0),(.int .i64 0),(.int .i64 0),(.str [])])),oS 5 6 15]
 (oQ [oW 7 (.move (oB false))]
 (.seq (oQ [oM 16 1,oW 17 (.len 1 (.t 16)),oW 18 (.move (oI 0))]
 (.block 2 (.loop t118l0)))
 t118k0))))
 t118k1)))
def t118k2:DCode :=
 (oQ [oW 4 (.move (oB true))]
 .ret)
def t118:DFunc:={ ntmps:=39,results:=[.t 4],mode:=.pure,body :=
 (oQ [oW 4 (.move (oB false))]
 (.seq (oQ [oM 10 0,oW 11 (.len 1 (.t 10)),oW 12 (.move (oI 0))]
 (.block 0 (.loop t118l1)))
 t118k2)) }
theorem c118:compFunc Tryz.prog Tryz.f118 .pure=some t118:=by kernel_rfl
def t119l0:DCode :=
 (oQ [oW 13 (.arith .lss (.t 12) (.t 11))]
 (.seq (.cond (.t 13) .skip (.exit 0))
 (.seq (.block 1 (oQ [oM 14 12,oW 15 (.indexAddr 7 (.t 10) (.t 12)),oL 16 7 15,oW 8 (.alloc 58 7 (.agg [(.int .i64 0),(.int .i64 0),(.int .i64 0),(.int .i64 0),.nsl,(.int .i64 0),(.bool false)])),oM 7 14,oS 7 8 16]
 (oQ [oA 17 0 8,oL 18 2 17,oL 19 2 4,oW 20 (.eqa false [1,1] (.t 18) (.t 19)),oM 21 20,gA 22 2 8 21 true,gL 23 2 22 21 true,gL 24 2 5 21 true,gW 25 (.eqa false [1,1] (.t 23) (.t 24)) 21 true,oW 26 (.pick (.t 21) (.t 25) (oB false))]
 (.cond (.t 26) (oQ [oM 27 7,oM 6 27]
 .ret) .skip))))
 (.region [oW 28 (.arith .add (.t 12) (oI 1)),oM 12 28]))))
def t119k0:DCode :=
 (oQ [oW 6 (.move (oI (-1)))]
 .ret)
def t119:DFunc:={ ntmps:=29,results:=[.t 6],mode:=.pure,body :=
 (oQ [oW 3 (.box 29 6 (.t 0)),oW 4 (.box 37 2 (.t 1)),oW 5 (.box 37 2 (.t 2)),oW 6 (.move (oI 0))]
 (.seq (oQ [oA 9 4 3,oD 10 9,oW 11 (.len 1 (.t 10)),oW 12 (.move (oI 0))]
 (.block 0 (.loop t119l0)))
 t119k0)) }
theorem c119:compFunc Tryz.prog Tryz.f119 .pure=some t119:=by kernel_rfl
def t120:DFunc:={ ntmps:=10,results:=[(.cell 2 (some 7))],mode:=.pure,body :=
 (oQ [oW 1 (.box 58 7 (.t 0)),oW 2 (.alloc 84 7 (.agg [(.int .i64 0),(.int .i64 0),(.int .i64 0),(.int .i64 0),(.int .i64 0),.nsl,.nsl]))]
 (oQ [oA 3 0 1,oL 4 2 3,oA 5 2 1,oL 6 2 5,oA 7 4 1,oD 8 7,oW 9 (.build [(.int .i64 0),(.int .i64 0),(.int .i64 0),(.int .i64 0),(.int .i64 0),.nsl,.nsl] [(0,1,oI 3),(1,2,.t 4),(3,2,.t 6),(5,1,.t 8)]),oS 7 2 9]
 .ret)) }
theorem c120:compFunc Tryz.prog Tryz.f120 .pure=some t120:=by kernel_rfl
def t121:DFunc:={ ntmps:=22,results:=[.t 4],mode:=.pure,body :=
 (oQ [oW 4 (.move (oB false))]
 (oQ [oW 8 (.buildSlice 62 5 (.agg [(.str []),(.int .i64 0),(.int .i64 0),(.int .i64 0),(.str [])]) 0 []),oM 9 0,oW 10 (.append 62 5 56 (.t 8) (.t 9)),oM 11 1,oW 12 (.append 62 5 56 (.t 10) (.t 11)),oW 13 (.call (oF 159) [.t 12]),oM 7 13,oX 14 7 0,oX 15 7 1,oM 5 14,oM 6 15]
 (oQ [oM 16 6,oM 17 16,gM 18 5 17 true,gW 19 (.len 1 (.t 18)) 17 true,gW 20 (.arith .leq (.t 19) (oI 5)) 17 true,oW 21 (.pick (.t 17) (.t 20) (oB false)),oM 4 21]
 .ret))) }
theorem c121:compFunc Tryz.prog Tryz.f121 .pure=some t121:=by kernel_rfl
def t122:DFunc:={ ntmps:=10,results:=[(.cell 2 (some 7))],mode:=.pure,body :=
 (oQ [oW 1 (.box 58 7 (.t 0)),oW 2 (.alloc 84 7 (.agg [(.int .i64 0),(.int .i64 0),(.int .i64 0),(.int .i64 0),(.int .i64 0),.nsl,.nsl]))]
 (oQ [oA 3 0 1,oL 4 2 3,oA 5 2 1,oL 6 2 5,oA 7 4 1,oD 8 7,oW 9 (.build [(.int .i64 0),(.int .i64 0),(.int .i64 0),(.int .i64 0),(.int .i64 0),.nsl,.nsl] [(0,1,oI 3),(1,2,.t 4),(3,2,.t 6),(5,1,.t 8)]),oS 7 2 9]
 .ret)) }
theorem c122:compFunc Tryz.prog Tryz.f122 .pure=some t122:=by kernel_rfl
def t123:DFunc:={ ntmps:=21,results:=[.t 4,.t 5],mode:=.pure,body :=
 (oQ [oW 4 (.move (.c .nsl)),oW 5 (.move (oB false))]
 (oQ [oW 9 (.buildSlice 62 5 (.agg [(.str []),(.int .i64 0),(.int .i64 0),(.int .i64 0),(.str [])]) 0 []),oM 10 0,oW 11 (.append 62 5 56 (.t 9) (.t 10)),oM 12 1,oW 13 (.append 62 5 56 (.t 11) (.t 12)),oW 14 (.call (oF 160) [.t 13]),oM 8 14,oX 15 8 0,oX 16 8 1,oM 6 15,oM 7 16]
 (.seq (oQ [oM 17 7,oW 18 (.eqn 4 true (.t 17) (.c .nili))]
 (.cond (.t 18) (oQ [oW 4 (.move (.c .nsl)),oW 5 (.move (oB false))]
 .ret) .skip))
 (oQ [oM 19 6,oW 20 (.call (oF 161) [.t 19]),oM 4 20,oW 5 (.move (oB true))]
 .ret)))) }
theorem c123:compFunc Tryz.prog Tryz.f123 .pure=some t123:=by kernel_rfl
def t124:DFunc:={ ntmps:=12,results:=[.t 4,.t 5],mode:=.pure,body :=
 (oQ [oW 2 (.box 29 6 (.t 0)),oW 3 (.box 37 2 (.t 1)),oW 4 (.move (oI 0)),oW 5 (.move (oB false))]
 (oQ [oA 6 5 2,oD 7 6,oL 8 2 3,oW 9 (.call (oF 162) [.t 7,.t 8,oF 163]),oX 10 9 0,oX 11 9 1,oM 4 10,oM 5 11]
 .ret)) }
theorem c124:compFunc Tryz.prog Tryz.f124 .pure=some t124:=by kernel_rfl
def t125:DFunc:={ ntmps:=95,results:=[.t 6],mode:=.split,body :=
 (oQ [oW 6 (.move (.c .nsl))]
 (oQ [oM 10 0,oM 11 1,oW 12 (.sliceSl 3 (.t 10) (some (.t 11)) none)]
 (oQ [oM 13 2,oW 14 (.len 1 (.t 13)),oM 7 14]
 (.seq (oQ [oM 15 7,oW 16 (.arith .eql (.t 15) (oI 0))]
 (.cond (.t 16) (oQ [oM 17 0,oM 6 17]
 .ret) .skip))
 (oQ [oM 18 0,oW 19 (.len 1 (.t 18)),oM 8 19]
 (.seq (oQ [oM 20 1,oM 21 8,oW 22 (.arith .eql (.t 20) (.t 21))]
 (.cond (.t 22) (oQ [oM 23 0,oM 24 2,oW 25 (.append 60 3 40 (.t 23) (.t 24)),oM 6 25]
 .ret) .skip))
 (.seq (oQ [oM 26 8,oM 27 7,oW 28 (.arith .add (.t 26) (.t 27)),oM 29 0,oW 30 (.cap (.t 29)),oW 31 (.arith .gtr (.t 28) (.t 30))]
 (.cond (.t 31) (oQ [oM 32 0,oM 33 1,oW 34 (.sliceSl 3 (.t 32) none (some (.t 33))),oM 35 8,oM 36 7,oW 37 (.arith .add (.t 35) (.t 36)),oM 38 1,oW 39 (.arith .sub (.t 37) (.t 38)),oW 40 (.appendZ 60 3 40 (.agg [(.int .i64 0),(.int .i64 0),.nsl]) (.t 34) (.t 39)),oM 9 40]
 (oQ [oM 41 9,oM 42 1,oW 43 (.sliceSl 3 (.t 41) (some (.t 42)) none),oM 44 2,oW 45 (.copy 3 (.t 43) (.t 44))]
 (.seq (.draw [oRM 46 9,oRM 47 1,oRM 48 7,oR 49 (.arith .add (.t 47) (.t 48)),oR 50 (.sliceSl 3 (.t 46) (some (.t 49)) none),oRM 51 0,oRM 52 1,oR 53 (.sliceSl 3 (.t 51) (some (.t 52)) none),oW 54 (.copy 3 (.t 50) (.t 53))])
 (oQ [oM 55 9,oM 6 55]
 .ret)))) .skip))
 (oQ [oM 56 0,oM 57 8,oM 58 7,oW 59 (.arith .add (.t 57) (.t 58)),oW 60 (.sliceSl 3 (.t 56) none (some (.t 59))),oM 0 60]
 (.seq (oQ [oM 61 2,oM 62 0,oM 63 1,oM 64 7,oW 65 (.arith .add (.t 63) (.t 64)),oW 66 (.sliceSl 3 (.t 62) (some (.t 65)) none),oW 67 (.call (oF 164) [.t 61,.t 66]),oW 68 (.un .not (.t 67))]
 (.cond (.t 68) (.seq (.draw [oRM 69 0,oRM 70 1,oRM 71 7,oR 72 (.arith .add (.t 70) (.t 71)),oR 73 (.sliceSl 3 (.t 69) (some (.t 72)) none),oRM 74 0,oRM 75 1,oR 76 (.sliceSl 3 (.t 74) (some (.t 75)) none),oW 77 (.copy 3 (.t 73) (.t 76))])
 (oQ [oM 78 0,oM 79 1,oW 80 (.sliceSl 3 (.t 78) (some (.t 79)) none),oM 81 2,oW 82 (.copy 3 (.t 80) (.t 81))]
 (oQ [oM 83 0,oM 6 83]
 .ret))) .skip))
 (oQ [oM 84 0,oM 85 8,oW 86 (.sliceSl 3 (.t 84) (some (.t 85)) none),oM 87 2,oW 88 (.copy 3 (.t 86) (.t 87))]
 (oQ [oM 89 0,oM 90 1,oW 91 (.sliceSl 3 (.t 89) (some (.t 90)) none),oM 92 7,oW 93 (.call (oF 165) [.t 91,.t 92])]
 (oQ [oM 94 0,oM 6 94]
 .ret)))))))))))) }
theorem c125:compFunc Tryz.prog Tryz.f125 .split=some t125:=by kernel_rfl
def t127:DFunc:={ ntmps:=32,results:=[(.cell 4 (some 6)),.t 5],mode:=.frz,body :=
 (oQ [oW 2 (.box 29 6 (.t 0)),oW 3 (.box 58 7 (.t 1)),oW 4 (.alloc 29 6 (.agg [(.int .i64 0),.nsl,.nsl,.nsl,.nsl,.nsl])),oW 5 (.move (.c .nsl))]
 (oQ [oL 10 6 2,oA 11 0 3,oL 12 2 11,oW 13 (.call (oF 23) [.t 10,.t 12]),oM 9 13,oX 14 9 0,oX 15 9 1,oW 6 (.alloc 42 4 (.agg [(.int .i64 0),(.int .i64 0),.nsl,(.int .i64 0)])),oS 4 6 14,oM 7 15]
 (oQ [oL 17 6 2,oL 18 7 3,oW 19 (.call (oF 31) [.t 17,.t 18]),oM 16 19,oX 20 16 0,oX 21 16 1,oS 6 2 20,oM 8 21]
 (.seq (oQ [oM 22 8,oW 23 (.un .not (.t 22))]
 (.cond (.t 23) (oQ [oL 24 6 2,oS 6 4 24,oW 5 (.move (.c .nsl))]
 .ret) .skip))
 (.seq (.draw [oRL 25 6 2,oRA 26 3 6,oRD 27 26,⟨(some 28),.load (some 7) (.t 3),none,.read,0,true⟩,nK 29 (.call (oF 120) [.t 28]) .create 0,⟨none,.store 6 (.t 4) (.t 25),none,.create,0,false⟩,nK 30 (.build [(.int .i64 0),(.int .i64 0),(.int .i64 0),(.int .i64 0),(.int .i64 0),(.int .i64 0),.nsl,.nsl] [(0,1,.t 27),(1,7,.t 29)]) .read 1,nK 31 (.buildSlice 86 8 (.agg [(.int .i64 0),(.int .i64 0),(.int .i64 0),(.int .i64 0),(.int .i64 0),(.int .i64 0),.nsl,.nsl]) 1 [(0,.t 30)]) .create 0,nK 5 (.move (.t 31)) .read 3])
 .ret))))) }
theorem c127:compFunc Tryz.prog Tryz.f127 .frz=some t127:=by kernel_rfl
def t128:DFunc:={ ntmps:=33,results:=[.t 6],mode:=.full,body :=
 (oQ [oW 6 (.move (.c .nsl))]
 (oQ [oM 8 0,oM 9 1,oM 10 2,oM 11 0,oW 12 (.len 1 (.t 11)),oW 13 (.slice3 (.t 8) (.t 9) (.t 10) (.t 12))]
 (.seq (oQ [oM 14 1,oM 15 2,oW 16 (.arith .eql (.t 14) (.t 15))]
 (.cond (.t 16) (oQ [oM 17 0,oM 6 17]
 .ret) .skip))
 (oQ [oM 18 0,oW 19 (.len 1 (.t 18)),oM 7 19]
 (.seq (.draw [oRM 20 0,oRM 21 1,oR 22 (.sliceSl 3 (.t 20) none (some (.t 21))),oRM 23 0,oRM 24 2,oR 25 (.sliceSl 3 (.t 23) (some (.t 24)) none),oW 26 (.append 60 3 40 (.t 22) (.t 25)),nK 0 (.move (.t 26)) .read 1])
 (oQ [oM 27 0,oM 28 0,oW 29 (.len 1 (.t 28)),oM 30 7,oW 31 (.sliceSl 3 (.t 27) (some (.t 29)) (some (.t 30))),oZ (.clear 3 (.agg [(.int .i64 0),(.int .i64 0),.nsl]) (.t 31))]
 (oQ [oM 32 0,oM 6 32]
 .ret))))))) }
theorem c128:compFunc Tryz.prog Tryz.f128 .full=some t128:=by kernel_rfl
end Go.Dm.Tc
