/-
The table of functions, brought into the machine's form (Tc, part 1). Written by program (wip/tools/table.lean.txt).
-/
import Derived.Test.YtfnhanajiibciaaGreatTc0
import Derived.Test.YtfnhanajiibciaaGreatMm3
import Derived.Test.YtfnhanajiibciaaGreatRows
import Derived.KernelRfl
namespace Go.Dm.Tc
open Go.Proofs
def t78l0:DCode :=
 (.seq (oQ [oM 16 6,oM 17 0,oW 18 (.len 1 (.t 17)),oW 19 (.arith .lss (.t 16) (.t 18))]
 (.cond (.t 19) .skip (.exit 0)))
 (.seq (.block 1 (oQ [oM 22 0,oM 23 6,oW 24 (.indexAddr 7 (.t 22) (.t 23)),oL 25 7 24,oW 7 (.alloc 58 7 (.agg [.int .i64 0,.int .i64 0,.int .i64 0,.int .i64 0,.nsl,.int .i64 0,.bool false])),oS 7 7 25]
 (oQ [oM 26 1,oL 27 7 7,oW 28 (.call (.t 26) [.t 27]),oW 29 (.un .not (.t 28))]
 (.cond (.t 29) (oQ [oM 30 0,oM 31 5,oL 32 7 7,oW 33 (.indexAddr 7 (.t 30) (.t 31)),oS 7 33 32]
 (.region [oM 34 5,oW 35 (.arith .add (.t 34) (oI 1)),oM 5 35])) .skip))))
 (.region [oM 20 6,oW 21 (.arith .add (.t 20) (oI 1)),oM 6 21])))
def t78k0:DCode :=
 (oQ [oM 36 0,oM 37 5,oW 38 (.sliceSl 7 (.t 36) (some (.t 37)) none),oZ (.clear 7 (.agg [.int .i64 0,.int .i64 0,.int .i64 0,.int .i64 0,.nsl,.int .i64 0,.bool false]) (.t 38))]
 (oQ [oM 39 0,oM 40 5,oW 41 (.sliceSl 7 (.t 39) none (some (.t 40))),oM 4 41]
 .ret))
def t78:DFunc:={ntmps:=42,results:=[.t 4],mode:=.full,body :=
 (oQ [oW 4 (.move (.c .nsl))]
 (oQ [oM 8 0,oM 9 1,oW 10 (.call (oF 146) [.t 8,.t 9]),oM 5 10]
 (.seq (oQ [oM 11 5,oW 12 (.arith .eql (.t 11) (oI (-1)))]
 (.cond (.t 12) (oQ [oM 13 0,oM 4 13]
 .ret) .skip))
 (.seq (oQ [oM 14 5,oW 15 (.arith .add (.t 14) (oI 1)),oM 6 15]
 (.block 0 (.loop t78l0)))
 t78k0))))}
theorem c78:compFunc Tryz.prog Tryz.f78 .full=some t78:=by kernel_rfl
def t79:DFunc:={ntmps:=8,results:=[.t 3],mode:=.pure,body :=
 (oQ [oW 2 (.box 58 7 (.t 0)),oW 3 (.move (oB false))]
 (oQ [oA 4 0 2,oL 5 2 4,oL 6 2 1,oW 7 (.eqa false [1,1] (.t 5) (.t 6)),oM 3 7]
 .ret))}
theorem c79:compFunc Tryz.prog Tryz.f79 .pure=some t79:=by kernel_rfl
def t100l0:DCode :=
 (oQ [oW 9 (.arith .lss (.t 8) (.t 7))]
 (.seq (.cond (.t 9) .skip (.exit 0))
 (.seq (.block 1 (oQ [oW 10 (.indexAddr 1 (.t 6) (.t 8)),oD 11 10,oM 5 11]
 (oQ [oM 12 5,oM 13 3,oW 14 (.arith .neq (.t 12) (.t 13))]
 (.cond (.t 14) (oQ [oM 15 5,oM 2 15]
 .ret) .skip))))
 (.region [oW 16 (.arith .add (.t 8) (oI 1)),oM 8 16]))))
def t100k0:DCode :=
 (oQ [oM 17 3,oM 2 17]
 .ret)
def t100:DFunc:={ntmps:=18,results:=[.t 2],mode:=.pure,body :=
 (oQ [oW 2 (.move (oI 0))]
 (oQ [oW 3 (.move (oI 0))]
 (.seq (oQ [oM 6 0,oW 7 (.len 1 (.t 6)),oW 8 (.move (oI 0))]
 (.block 0 (.loop t100l0)))
 t100k0)))}
theorem c100:compFunc Tryz.prog Tryz.f100 .pure=some t100:=by kernel_rfl
def t101:DFunc:={ntmps:=17,results:=[.t 4],mode:=.pure,body :=
 (oQ [oW 2 (.box 37 2 (.t 0)),oW 3 (.box 37 2 (.t 1)),oW 4 (.move (oI 0))]
 (.seq (.draw [oRA 5 0 2,oRD 6 5,oRA 7 0 3,oRD 8 7,nK 9 (.call (oF 148) [.t 6,.t 8]) .create 0,oRA 10 1 2,oRD 11 10,oRA 12 1 3,oRD 13 12,nK 14 (.call (oF 148) [.t 11,.t 13]) .write 1,nK 15 (.buildSlice 3 1 (.int .i64 0) 2 [(0,.t 9),(1,.t 14)]) .create 0,nK 16 (.call (oF 100) [.t 15]) .write 3,nK 4 (.move (.t 16)) .read 4])
 .ret))}
theorem c101:compFunc Tryz.prog Tryz.f101 .pure=some t101:=by kernel_rfl
def t106:DFunc:={ntmps:=9,results:=[.t 4],mode:=.pure,body :=
 (oQ [oW 4 (.move (oB false))]
 (oQ [oM 5 0,oM 6 1,oW 7 (.call (oF 146) [.t 5,.t 6]),oW 8 (.arith .geq (.t 7) (oI 0)),oM 4 8]
 .ret))}
theorem c106:compFunc Tryz.prog Tryz.f106 .pure=some t106:=by kernel_rfl
def t113:DFunc:={ntmps:=15,results:=[.t 6,.t 7],mode:=.pure,body :=
 (oQ [oW 3 (.box 29 6 (.t 0)),oW 4 (.box 37 2 (.t 1)),oW 5 (.box 37 2 (.t 2)),oW 6 (.move (oI 0)),oW 7 (.move (oB false))]
 (oQ [oA 8 4 3,oD 9 8,oL 10 2 5,oW 11 (.makeFunc 155 [.t 4]),oW 12 (.call (oF 154) [.t 9,.t 10,.t 11]),oX 13 12 0,oX 14 12 1,oM 6 13,oM 7 14]
 .ret))}
theorem c113:compFunc Tryz.prog Tryz.f113 .pure=some t113:=by kernel_rfl
def t114:DFunc:={ntmps:=95,results:=[.t 6],mode:=.split,body :=
 (oQ [oW 6 (.move (.c .nsl))]
 (oQ [oM 10 0,oM 11 1,oW 12 (.sliceSl 7 (.t 10) (some (.t 11)) none)]
 (oQ [oM 13 2,oW 14 (.len 1 (.t 13)),oM 7 14]
 (.seq (oQ [oM 15 7,oW 16 (.arith .eql (.t 15) (oI 0))]
 (.cond (.t 16) (oQ [oM 17 0,oM 6 17]
 .ret) .skip))
 (oQ [oM 18 0,oW 19 (.len 1 (.t 18)),oM 8 19]
 (.seq (oQ [oM 20 1,oM 21 8,oW 22 (.arith .eql (.t 20) (.t 21))]
 (.cond (.t 22) (oQ [oM 23 0,oM 24 2,oW 25 (.append 58 7 72 (.t 23) (.t 24)),oM 6 25]
 .ret) .skip))
 (.seq (oQ [oM 26 8,oM 27 7,oW 28 (.arith .add (.t 26) (.t 27)),oM 29 0,oW 30 (.cap (.t 29)),oW 31 (.arith .gtr (.t 28) (.t 30))]
 (.cond (.t 31) (oQ [oM 32 0,oM 33 1,oW 34 (.sliceSl 7 (.t 32) none (some (.t 33))),oM 35 8,oM 36 7,oW 37 (.arith .add (.t 35) (.t 36)),oM 38 1,oW 39 (.arith .sub (.t 37) (.t 38)),oW 40 (.appendZ 58 7 72 (.agg [.int .i64 0,.int .i64 0,.int .i64 0,.int .i64 0,.nsl,.int .i64 0,.bool false]) (.t 34) (.t 39)),oM 9 40]
 (oQ [oM 41 9,oM 42 1,oW 43 (.sliceSl 7 (.t 41) (some (.t 42)) none),oM 44 2,oW 45 (.copy 7 (.t 43) (.t 44))]
 (.seq (.draw [oRM 46 9,oRM 47 1,oRM 48 7,oR 49 (.arith .add (.t 47) (.t 48)),oR 50 (.sliceSl 7 (.t 46) (some (.t 49)) none),oRM 51 0,oRM 52 1,oR 53 (.sliceSl 7 (.t 51) (some (.t 52)) none),oW 54 (.copy 7 (.t 50) (.t 53))])
 (oQ [oM 55 9,oM 6 55]
 .ret)))) .skip))
 (oQ [oM 56 0,oM 57 8,oM 58 7,oW 59 (.arith .add (.t 57) (.t 58)),oW 60 (.sliceSl 7 (.t 56) none (some (.t 59))),oM 0 60]
 (.seq (oQ [oM 61 2,oM 62 0,oM 63 1,oM 64 7,oW 65 (.arith .add (.t 63) (.t 64)),oW 66 (.sliceSl 7 (.t 62) (some (.t 65)) none),oW 67 (.call (oF 156) [.t 61,.t 66]),oW 68 (.un .not (.t 67))]
 (.cond (.t 68) (.seq (.draw [oRM 69 0,oRM 70 1,oRM 71 7,oR 72 (.arith .add (.t 70) (.t 71)),oR 73 (.sliceSl 7 (.t 69) (some (.t 72)) none),oRM 74 0,oRM 75 1,oR 76 (.sliceSl 7 (.t 74) (some (.t 75)) none),oW 77 (.copy 7 (.t 73) (.t 76))])
 (oQ [oM 78 0,oM 79 1,oW 80 (.sliceSl 7 (.t 78) (some (.t 79)) none),oM 81 2,oW 82 (.copy 7 (.t 80) (.t 81))]
 (oQ [oM 83 0,oM 6 83]
 .ret))) .skip))
 (oQ [oM 84 0,oM 85 8,oW 86 (.sliceSl 7 (.t 84) (some (.t 85)) none),oM 87 2,oW 88 (.copy 7 (.t 86) (.t 87))]
 (oQ [oM 89 0,oM 90 1,oW 91 (.sliceSl 7 (.t 89) (some (.t 90)) none),oM 92 7,oW 93 (.call (oF 157) [.t 91,.t 92])]
 (oQ [oM 94 0,oM 6 94]
 .ret))))))))))))}
theorem c114:compFunc Tryz.prog Tryz.f114 .split=some t114:=by kernel_rfl
def t117:DFunc:={ntmps:=12,results:=[.t 3],mode:=.pure,body :=
 (oQ [oW 2 (.box 58 7 (.t 0)),oW 3 (.move (oB false))]
 (oQ [oA 4 6 2,oD 5 4,oM 6 5,gA 7 4 2 6 true,gD 8 7 6 true,gD 9 1 6 true,gW 10 (.call (oF 54) [.t 8,.t 9]) 6 true,oW 11 (.pick (.t 6) (.t 10) (oB false)),oM 3 11]
 .ret))}
theorem c117:compFunc Tryz.prog Tryz.f117 .pure=some t117:=by kernel_rfl
def t118l0:DCode :=
 (oQ [oW 19 (.arith .lss (.t 18) (.t 17))]
 (.seq (.cond (.t 19) .skip (.exit 2))
 (.seq (.block 3 (oQ [oW 20 (.indexAddr 5 (.t 16) (.t 18)),oL 21 5 20,oW 9 (.alloc 62 5 (.agg [.str [],.int .i64 0,.int .i64 0,.int .i64 0,.str []])),oS 5 9 21]
 (.region [oM 22 7,oM 23 22,gA 24 0 9 23 false,gD 25 24 23 false,gA 26 0 6 23 false,gD 27 26 23 false,gW 28 (.arith .eql (.t 25) (.t 27)) 23 false,gM 29 28 23 false,gL 30 5 9 29 true,gL 31 5 6 29 true,gW 32 (.call (oF 158) [.t 30,.t 31]) 29 true,gW 33 (.pick (.t 29) (.t 32) (oB false)) 23 false,oW 34 (.pick (.t 23) (oB true) (.t 33)),oM 7 34])))
 (.region [oW 35 (.arith .add (.t 18) (oI 1)),oM 18 35]))))
def t118k0:DCode :=
 (oQ [oM 36 7,oW 37 (.un .not (.t 36))]
 (.cond (.t 37) (oQ [oW 4 (.move (oB false))]
 .ret) .skip))
def t118k1:DCode :=
 (.region [oW 38 (.arith .add (.t 12) (oI 1)),oM 12 38])
def t118l1:DCode :=
 (oQ [oW 13 (.arith .lss (.t 12) (.t 11))]
 (.seq (.cond (.t 13) .skip (.exit 0))
 (.seq (.block 1 (oQ [oW 14 (.indexAddr 5 (.t 10) (.t 12)),oL 15 5 14,oW 6 (.alloc 62 5 (.agg [.str [],.int .i64 0,.int .i64 0,.int .i64 0,.str []])),oS 5 6 15]
 (oQ [oW 7 (.move (oB false))]
 (.seq (oQ [oM 16 1,oW 17 (.len 1 (.t 16)),oW 18 (.move (oI 0))]
 (.block 2 (.loop t118l0)))
 t118k0))))
 t118k1)))
def t118k2:DCode :=
 (oQ [oW 4 (.move (oB true))]
 .ret)
def t118:DFunc:={ntmps:=39,results:=[.t 4],mode:=.pure,body :=
 (oQ [oW 4 (.move (oB false))]
 (.seq (oQ [oM 10 0,oW 11 (.len 1 (.t 10)),oW 12 (.move (oI 0))]
 (.block 0 (.loop t118l1)))
 t118k2))}
theorem c118:compFunc Tryz.prog Tryz.f118 .pure=some t118:=by kernel_rfl
def t119l0:DCode :=
 (oQ [oW 13 (.arith .lss (.t 12) (.t 11))]
 (.seq (.cond (.t 13) .skip (.exit 0))
 (.seq (.block 1 (oQ [oM 14 12,oW 15 (.indexAddr 7 (.t 10) (.t 12)),oL 16 7 15,oW 8 (.alloc 58 7 (.agg [.int .i64 0,.int .i64 0,.int .i64 0,.int .i64 0,.nsl,.int .i64 0,.bool false])),oM 7 14,oS 7 8 16]
 (oQ [oA 17 0 8,oL 18 2 17,oL 19 2 4,oW 20 (.eqa false [1,1] (.t 18) (.t 19)),oM 21 20,gA 22 2 8 21 true,gL 23 2 22 21 true,gL 24 2 5 21 true,gW 25 (.eqa false [1,1] (.t 23) (.t 24)) 21 true,oW 26 (.pick (.t 21) (.t 25) (oB false))]
 (.cond (.t 26) (oQ [oM 27 7,oM 6 27]
 .ret) .skip))))
 (.region [oW 28 (.arith .add (.t 12) (oI 1)),oM 12 28]))))
def t119k0:DCode :=
 (oQ [oW 6 (.move (oI (-1)))]
 .ret)
def t119:DFunc:={ntmps:=29,results:=[.t 6],mode:=.pure,body :=
 (oQ [oW 3 (.box 29 6 (.t 0)),oW 4 (.box 37 2 (.t 1)),oW 5 (.box 37 2 (.t 2)),oW 6 (.move (oI 0))]
 (.seq (oQ [oA 9 4 3,oD 10 9,oW 11 (.len 1 (.t 10)),oW 12 (.move (oI 0))]
 (.block 0 (.loop t119l0)))
 t119k0))}
theorem c119:compFunc Tryz.prog Tryz.f119 .pure=some t119:=by kernel_rfl
def t120:DFunc:={ntmps:=10,results:=[(.cell 2 (some 7))],mode:=.pure,body :=
 (oQ [oW 1 (.box 58 7 (.t 0)),oW 2 (.alloc 84 7 (.agg [.int .i64 0,.int .i64 0,.int .i64 0,.int .i64 0,.int .i64 0,.nsl,.nsl]))]
 (oQ [oA 3 0 1,oL 4 2 3,oA 5 2 1,oL 6 2 5,oA 7 4 1,oD 8 7,oW 9 (.build [.int .i64 0,.int .i64 0,.int .i64 0,.int .i64 0,.int .i64 0,.nsl,.nsl] [(0,1,oI 3),(1,2,.t 4),(3,2,.t 6),(5,1,.t 8)]),oS 7 2 9]
 .ret))}
theorem c120:compFunc Tryz.prog Tryz.f120 .pure=some t120:=by kernel_rfl
def t121:DFunc:={ntmps:=22,results:=[.t 4],mode:=.pure,body :=
 (oQ [oW 4 (.move (oB false))]
 (oQ [oW 8 (.buildSlice 62 5 (.agg [.str [],.int .i64 0,.int .i64 0,.int .i64 0,.str []]) 0 []),oM 9 0,oW 10 (.append 62 5 56 (.t 8) (.t 9)),oM 11 1,oW 12 (.append 62 5 56 (.t 10) (.t 11)),oW 13 (.call (oF 159) [.t 12]),oM 7 13,oX 14 7 0,oX 15 7 1,oM 5 14,oM 6 15]
 (oQ [oM 16 6,oM 17 16,gM 18 5 17 true,gW 19 (.len 1 (.t 18)) 17 true,gW 20 (.arith .leq (.t 19) (oI 5)) 17 true,oW 21 (.pick (.t 17) (.t 20) (oB false)),oM 4 21]
 .ret)))}
theorem c121:compFunc Tryz.prog Tryz.f121 .pure=some t121:=by kernel_rfl
def t122:DFunc:={ntmps:=10,results:=[(.cell 2 (some 7))],mode:=.pure,body :=
 (oQ [oW 1 (.box 58 7 (.t 0)),oW 2 (.alloc 84 7 (.agg [.int .i64 0,.int .i64 0,.int .i64 0,.int .i64 0,.int .i64 0,.nsl,.nsl]))]
 (oQ [oA 3 0 1,oL 4 2 3,oA 5 2 1,oL 6 2 5,oA 7 4 1,oD 8 7,oW 9 (.build [.int .i64 0,.int .i64 0,.int .i64 0,.int .i64 0,.int .i64 0,.nsl,.nsl] [(0,1,oI 3),(1,2,.t 4),(3,2,.t 6),(5,1,.t 8)]),oS 7 2 9]
 .ret))}
theorem c122:compFunc Tryz.prog Tryz.f122 .pure=some t122:=by kernel_rfl
def t123:DFunc:={ntmps:=21,results:=[.t 4,.t 5],mode:=.pure,body :=
 (oQ [oW 4 (.move (.c .nsl)),oW 5 (.move (oB false))]
 (oQ [oW 9 (.buildSlice 62 5 (.agg [.str [],.int .i64 0,.int .i64 0,.int .i64 0,.str []]) 0 []),oM 10 0,oW 11 (.append 62 5 56 (.t 9) (.t 10)),oM 12 1,oW 13 (.append 62 5 56 (.t 11) (.t 12)),oW 14 (.call (oF 160) [.t 13]),oM 8 14,oX 15 8 0,oX 16 8 1,oM 6 15,oM 7 16]
 (.seq (oQ [oM 17 7,oW 18 (.eqn 4 true (.t 17) (.c .nili))]
 (.cond (.t 18) (oQ [oW 4 (.move (.c .nsl)),oW 5 (.move (oB false))]
 .ret) .skip))
 (oQ [oM 19 6,oW 20 (.call (oF 161) [.t 19]),oM 4 20,oW 5 (.move (oB true))]
 .ret))))}
theorem c123:compFunc Tryz.prog Tryz.f123 .pure=some t123:=by kernel_rfl
def t130:DFunc:={ntmps:=45,results:=[.t 4],mode:=.pure,body :=
 (oQ [oW 2 (.box 62 5 (.t 0)),oW 3 (.box 62 5 (.t 1)),oW 4 (.move (oB false))]
 (.seq (oQ [oA 5 1 3,oD 6 5]
 (.block 0 (oQ [oW 8 (.arith .eql (.t 6) (oI 1)),oM 7 8]
 (.cond (.t 7) (oQ [oA 9 1 2,oD 10 9,oW 11 (.arith .eql (.t 10) (oI 1)),oM 12 11,gA 13 2 2 12 true,gD 14 13 12 true,gA 15 2 3 12 true,gD 16 15 12 true,gW 17 (.arith .leq (.t 14) (.t 16)) 12 true,oW 18 (.pick (.t 12) (.t 17) (oB false)),oM 19 18,gA 20 3 3 19 true,gD 21 20 19 true,gA 22 3 2 19 true,gD 23 22 19 true,gW 24 (.arith .leq (.t 21) (.t 23)) 19 true,oW 25 (.pick (.t 19) (.t 24) (oB false)),oM 4 25]
 .ret) (oQ [oW 27 (.arith .eql (.t 6) (oI 3)),oM 26 27]
 (.cond (.t 26) (oQ [oA 28 1 2,oD 29 28,oW 30 (.arith .eql (.t 29) (oI 3)),oM 31 30,gA 32 4 3 31 true,gD 33 32 31 true,gA 34 4 2 31 true,gD 35 34 31 true,gW 36 (.call (oF 166) [.t 33,.t 35]) 31 true,oW 37 (.pick (.t 31) (.t 36) (oB false)),oM 4 37]
 .ret) (oQ [oW 39 (.arith .eql (.t 6) (oI 2)),oM 38 39]
 (.cond (.t 38) (.seq (.draw [oRL 40 5 2,oRA 41 4 3,oRD 42 41,nK 43 (.call (oF 168) [.t 42]) .create 0,nK 44 (.call (oF 167) [.t 40,.t 43]) .write 1,nK 4 (.move (.t 44)) .read 2])
 .ret) .skip))))))))
 (oQ [oW 4 (.move (oB false))]
 .ret)))}
theorem c130:compFunc Tryz.prog Tryz.f130 .pure=some t130:=by kernel_rfl
def t134l0:DCode :=
 (.block 1 (oQ [oM 19 2,oM 20 1,oW 21 (.arith .sub (.t 19) (.t 20)),oM 10 21]
 (.seq (oQ [oM 22 10,oW 23 (.arith .leq (.t 22) (oI 12))]
 (.cond (.t 23) (oQ [oM 24 0,oM 25 1,oM 26 2,oW 27 (.call (oF 170) [.t 24,.t 25,.t 26])]
 .ret) .skip))
 (.seq (oQ [oM 28 3,oW 29 (.arith .eql (.t 28) (oI 0))]
 (.cond (.t 29) (oQ [oM 30 0,oM 31 1,oM 32 2,oW 33 (.call (oF 171) [.t 30,.t 31,.t 32])]
 .ret) .skip))
 (.seq (oQ [oM 34 8,oW 35 (.un .not (.t 34))]
 (.cond (.t 35) (oQ [oM 36 0,oM 37 1,oM 38 2,oW 39 (.call (oF 172) [.t 36,.t 37,.t 38])]
 (.region [oM 40 3,oW 41 (.arith .sub (.t 40) (oI 1)),oM 3 41])) .skip))
 (oQ [oM 43 0,oM 44 1,oM 45 2,oW 46 (.call (oF 173) [.t 43,.t 44,.t 45]),oM 42 46,oX 47 42 0,oX 48 42 1,oM 11 47,oM 12 48]
 (.seq (oQ [oM 49 12,oW 50 (.arith .eql (.t 49) (oI 2))]
 (.cond (.t 50) (oQ [oM 51 0,oM 52 1,oM 53 2,oW 54 (.call (oF 174) [.t 51,.t 52,.t 53])]
 (oQ [oM 55 2,oW 56 (.arith .sub (.t 55) (oI 1)),oM 57 11,oM 58 1,oW 59 (.arith .sub (.t 57) (.t 58)),oW 60 (.arith .sub (.t 56) (.t 59)),oM 11 60]
 (.region [oW 12 (.move (oI 1))]))) .skip))
 (.seq (oQ [oM 61 8,oM 62 61,gM 63 9 62 true,oW 64 (.pick (.t 62) (.t 63) (oB false)),oM 65 64,gM 66 12 65 true,gW 67 (.arith .eql (.t 66) (oI 1)) 65 true,oW 68 (.pick (.t 65) (.t 67) (oB false))]
 (.cond (.t 68) (oQ [oM 69 0,oM 70 1,oM 71 2,oW 72 (.call (oF 175) [.t 69,.t 70,.t 71])]
 (.cond (.t 72) .ret .skip)) .skip))
 (.seq (.seq (.draw [oRM 73 1,oR 74 (.arith .gtr (.t 73) (oI 0)),oRM 75 74,rM 76 0 75 true,rM 77 1 75 true,rW 78 (.arith .sub (.t 77) (oI 1)) 75 true,rW 79 (.indexAddr 1 (.t 76) (.t 78)) 75 true,rD 80 79 75 true,rM 81 0 75 true,rM 82 11 75 true,rW 83 (.indexAddr 1 (.t 81) (.t 82)) 75 true,rD 84 83 75 true,gW 85 (.call (oF 176) [.t 80,.t 84]) 75 true,⟨(some 86),.un .not (.t 85),(some (75,true)),.read,1,false⟩,nK 87 (.pick (.t 75) (.t 86) (oB false)) .read 1])
 (.cond (.t 87) (oQ [oM 88 0,oM 89 1,oM 90 2,oM 91 11,oW 92 (.call (oF 177) [.t 88,.t 89,.t 90,.t 91]),oM 13 92]
 (oQ [oM 93 13,oM 1 93]
 (.exit 1))) .skip))
 (oQ [oM 95 0,oM 96 1,oM 97 2,oM 98 11,oW 99 (.call (oF 178) [.t 95,.t 96,.t 97,.t 98]),oM 94 99,oX 100 94 0,oX 101 94 1,oM 14 100,oM 15 101]
 (oQ [oM 102 15,oM 9 102]
 (oQ [oM 103 14,oM 104 1,oW 105 (.arith .sub (.t 103) (.t 104)),oM 106 2,oM 107 14,oW 108 (.arith .sub (.t 106) (.t 107)),oM 16 105,oM 17 108]
 (oQ [oM 109 10,oW 110 (.arith .quo (.t 109) (oI 8)),oM 18 110]
 (oQ [oM 111 16,oM 112 17,oW 113 (.arith .lss (.t 111) (.t 112))]
 (.cond (.t 113) (oQ [oM 114 16,oM 115 18,oW 116 (.arith .geq (.t 114) (.t 115)),oM 8 116]
 (oQ [oM 117 0,oM 118 1,oM 119 14,oM 120 3,oW 121 (.call (oF 134) [.t 117,.t 118,.t 119,.t 120])]
 (.region [oM 122 14,oW 123 (.arith .add (.t 122) (oI 1)),oM 1 123]))) (oQ [oM 124 17,oM 125 18,oW 126 (.arith .geq (.t 124) (.t 125)),oM 8 126]
 (oQ [oM 127 0,oM 128 14,oW 129 (.arith .add (.t 128) (oI 1)),oM 130 2,oM 131 3,oW 132 (.call (oF 134) [.t 127,.t 129,.t 130,.t 131])]
 (.region [oM 133 14,oM 2 133]))))))))))))))))))
def t134:DFunc:={ntmps:=134,results:=[],mode:=.full,body :=
 (oQ [oW 8 (.move (oB true))]
 (oQ [oW 9 (.move (oB true))]
 (.block 0 (.loop t134l0))))}
theorem c134:compFunc Tryz.prog Tryz.f134 .full=some t134:=by kernel_rfl
def t135:DFunc:={ntmps:=8,results:=[.t 2],mode:=.pure,body :=
 (oQ [oW 2 (.move (oI 0))]
 (.seq (.cond (oB false) (oQ [oM 3 0,oW 4 (.conv .u32 (.t 3)),oW 5 (.call (oF 179) [.t 4]),oM 2 5]
 .ret) .skip)
 (oQ [oM 6 0,oW 7 (.call (oF 180) [.t 6]),oM 2 7]
 .ret)))}
theorem c135:compFunc Tryz.prog Tryz.f135 .pure=some t135:=by kernel_rfl
def t136:DFunc:={ntmps:=2,results:=[.t 0],mode:=.pure,body :=
 (oQ [oW 0 (.move (.c .nsl))]
 (oQ [oW 1 (.buildSlice 9 1 (.str []) 7 [(0,(.c (.str []))),(1,(.c (.str [120]))),(2,(.c (.str [120,121]))),(3,(.c (.str [120,121,122]))),(4,(.c (.str [120,122]))),(5,(.c (.str [121]))),(6,(.c (.str [121,121])))]),oM 0 1]
 .ret))}
theorem c136:compFunc Tryz.prog Tryz.f136 .pure=some t136:=by kernel_rfl
def t139l0:DCode :=
 (.seq (oQ [oM 15 9,oM 16 10,oW 17 (.arith .lss (.t 15) (.t 16))]
 (.cond (.t 17) .skip (.exit 0)))
 (.block 1 (oQ [oM 18 9,oM 19 10,oW 20 (.arith .add (.t 18) (.t 19)),oW 21 (.conv .u64 (.t 20)),oW 22 (.arith .shr (.t 21) (.c (.int .u64 1))),oW 23 (.conv .i64 (.t 22)),oM 11 23]
 (.seq (.draw [oRM 25 0,oRM 26 11,oR 27 (.indexAddr 2 (.t 25) (.t 26)),oRL 28 2 27,oRL 29 2 4,oRM 24 2,oW 30 (.call (.t 24) [.t 28,.t 29]),nK 31 (.arith .lss (.t 30) (oI 0)) .read 1])
 (.cond (.t 31) (.region [oM 32 11,oW 33 (.arith .add (.t 32) (oI 1)),oM 9 33]) (.region [oM 34 11,oM 10 34]))))))
def t139k0:DCode :=
 (.seq (.draw [oRM 36 9,oRM 37 8,oR 38 (.arith .lss (.t 36) (.t 37)),oRM 39 38,rM 41 0 39 true,rM 42 9 39 true,rW 43 (.indexAddr 2 (.t 41) (.t 42)) 39 true,rL 44 2 43 39 true,rL 45 2 4 39 true,rM 40 2 39 true,gW 46 (.call (.t 40) [.t 44,.t 45]) 39 true,oRM 35 9,⟨(some 47),.arith .eql (.t 46) (oI 0),(some (39,true)),.read,1,false⟩,nK 48 (.pick (.t 39) (.t 47) (oB false)) .read 1,nK 6 (.move (.t 35)) .read 1,nK 7 (.move (.t 48)) .read 1])
 .ret)
def t139:DFunc:={ntmps:=49,results:=[.t 6,.t 7],mode:=.pure,body :=
 (oQ [oW 4 (.box 37 2 (.t 1)),oW 6 (.move (oI 0)),oW 7 (.move (oB false))]
 (oQ [oM 12 0,oW 13 (.len 1 (.t 12)),oM 8 13]
 (oQ [oM 14 8,oW 9 (.move (oI 0)),oM 10 14]
 (.seq (.block 0 (.loop t139l0))
 t139k0))))}
theorem c139:compFunc Tryz.prog Tryz.f139 .pure=some t139:=by kernel_rfl
def t140l0:DCode :=
 (.seq (oQ [oM 15 9,oM 16 10,oW 17 (.arith .lss (.t 15) (.t 16))]
 (.cond (.t 17) .skip (.exit 0)))
 (.block 1 (oQ [oM 18 9,oM 19 10,oW 20 (.arith .add (.t 18) (.t 19)),oW 21 (.conv .u64 (.t 20)),oW 22 (.arith .shr (.t 21) (.c (.int .u64 1))),oW 23 (.conv .i64 (.t 22)),oM 11 23]
 (.seq (.draw [oRM 25 0,oRM 26 11,oR 27 (.indexAddr 4 (.t 25) (.t 26)),oRL 28 4 27,oRL 29 2 4,oRM 24 2,oW 30 (.call (.t 24) [.t 28,.t 29]),nK 31 (.arith .lss (.t 30) (oI 0)) .read 1])
 (.cond (.t 31) (.region [oM 32 11,oW 33 (.arith .add (.t 32) (oI 1)),oM 9 33]) (.region [oM 34 11,oM 10 34]))))))
def t140k0:DCode :=
 (.seq (.draw [oRM 36 9,oRM 37 8,oR 38 (.arith .lss (.t 36) (.t 37)),oRM 39 38,rM 41 0 39 true,rM 42 9 39 true,rW 43 (.indexAddr 4 (.t 41) (.t 42)) 39 true,rL 44 4 43 39 true,rL 45 2 4 39 true,rM 40 2 39 true,gW 46 (.call (.t 40) [.t 44,.t 45]) 39 true,oRM 35 9,⟨(some 47),.arith .eql (.t 46) (oI 0),(some (39,true)),.read,1,false⟩,nK 48 (.pick (.t 39) (.t 47) (oB false)) .read 1,nK 6 (.move (.t 35)) .read 1,nK 7 (.move (.t 48)) .read 1])
 .ret)
def t140:DFunc:={ntmps:=49,results:=[.t 6,.t 7],mode:=.pure,body :=
 (oQ [oW 4 (.box 37 2 (.t 1)),oW 6 (.move (oI 0)),oW 7 (.move (oB false))]
 (oQ [oM 12 0,oW 13 (.len 1 (.t 12)),oM 8 13]
 (oQ [oM 14 8,oW 9 (.move (oI 0)),oM 10 14]
 (.seq (.block 0 (.loop t140l0))
 t140k0))))}
theorem c140:compFunc Tryz.prog Tryz.f140 .pure=some t140:=by kernel_rfl
def t141:DFunc:={ntmps:=9,results:=[.t 4],mode:=.pure,body :=
 (oQ [oW 2 (.box 42 4 (.t 0)),oW 3 (.box 37 2 (.t 1)),oW 4 (.move (oI 0))]
 (oQ [oA 5 0 2,oL 6 2 5,oL 7 2 3,oW 8 (.call (oF 101) [.t 6,.t 7]),oM 4 8]
 .ret))}
theorem c141:compFunc Tryz.prog Tryz.f141 .pure=some t141:=by kernel_rfl
def t143:DFunc:={ntmps:=10,results:=[],mode:=.full,body :=
 (.region [oM 4 0,oM 5 0,oW 6 (.len 1 (.t 5)),oM 7 1,oW 8 (.arith .sub (.t 6) (.t 7)),oW 9 (.call (oF 181) [.t 4,.t 8])])}
theorem c143:compFunc Tryz.prog Tryz.f143 .full=some t143:=by kernel_rfl
def t145:DFunc:={ntmps:=10,results:=[],mode:=.full,body :=
 (.region [oM 4 0,oM 5 0,oW 6 (.len 1 (.t 5)),oM 7 1,oW 8 (.arith .sub (.t 6) (.t 7)),oW 9 (.call (oF 182) [.t 4,.t 8])])}
theorem c145:compFunc Tryz.prog Tryz.f145 .full=some t145:=by kernel_rfl
def t146l0:DCode :=
 (oQ [oW 9 (.arith .lss (.t 8) (.t 7))]
 (.seq (.cond (.t 9) .skip (.exit 0))
 (.seq (.block 1 (oQ [oM 10 8,oM 5 10]
 (oQ [oM 11 1,oM 12 0,oM 13 5,oW 14 (.indexAddr 7 (.t 12) (.t 13)),oL 15 7 14,oW 16 (.call (.t 11) [.t 15])]
 (.cond (.t 16) (oQ [oM 17 5,oM 4 17]
 .ret) .skip))))
 (.region [oW 18 (.arith .add (.t 8) (oI 1)),oM 8 18]))))
def t146k0:DCode :=
 (oQ [oW 4 (.move (oI (-1)))]
 .ret)
def t146:DFunc:={ntmps:=19,results:=[.t 4],mode:=.pure,body :=
 (oQ [oW 4 (.move (oI 0))]
 (.seq (oQ [oM 6 0,oW 7 (.len 1 (.t 6)),oW 8 (.move (oI 0))]
 (.block 0 (.loop t146l0)))
 t146k0))}
theorem c146:compFunc Tryz.prog Tryz.f146 .pure=some t146:=by kernel_rfl
def t148:DFunc:={ntmps:=20,results:=[.t 4],mode:=.pure,body :=
 (oQ [oW 4 (.move (oI 0))]
 (oQ [oM 7 0,oW 8 (.call (oF 183) [.t 7]),oM 5 8]
 (oQ [oM 9 1,oW 10 (.call (oF 183) [.t 9]),oM 6 10]
 (.seq (oQ [oM 11 5]
 (.cond (.t 11) (.seq (oQ [oM 12 6]
 (.cond (.t 12) (oQ [oW 4 (.move (oI 0))]
 .ret) .skip))
 (oQ [oW 4 (.move (oI (-1)))]
 .ret)) .skip))
 (.seq (oQ [oM 13 6]
 (.cond (.t 13) (oQ [oW 4 (.move (oI 1))]
 .ret) .skip))
 (.seq (oQ [oM 14 0,oM 15 1,oW 16 (.arith .lss (.t 14) (.t 15))]
 (.cond (.t 16) (oQ [oW 4 (.move (oI (-1)))]
 .ret) .skip))
 (.seq (oQ [oM 17 0,oM 18 1,oW 19 (.arith .gtr (.t 17) (.t 18))]
 (.cond (.t 19) (oQ [oW 4 (.move (oI 1))]
 .ret) .skip))
 (oQ [oW 4 (.move (oI 0))]
 .ret))))))))}
theorem c148:compFunc Tryz.prog Tryz.f148 .pure=some t148:=by kernel_rfl
def t151:DFunc:={ntmps:=43,results:=[.t 2],mode:=.pure,body :=
 (oQ [oW 1 (.box 62 5 (.t 0)),oW 2 (.move (oB false))]
 (.seq (oQ [oA 3 0 1,oD 4 3,oW 5 (.call (oF 185) [.t 4]),oW 6 (.un .not (.t 5))]
 (.cond (.t 6) (oQ [oW 2 (.move (oB false))]
 .ret) .skip))
 (.seq (oQ [oA 7 1 1,oD 8 7]
 (.block 0 (.seq (.block 3 (.seq (.block 2 (.seq (.block 1 (.seq (.seq (oQ [oW 10 (.arith .eql (.t 8) (oI 1)),oM 9 10]
 (.cond (.t 9) (.exit 1) .skip))
 (.seq (oQ [oW 12 (.arith .eql (.t 8) (oI 3)),oM 11 12]
 (.cond (.t 11) (.exit 2) .skip))
 (oQ [oW 14 (.arith .eql (.t 8) (oI 2)),oM 13 14]
 (.cond (.t 13) (.exit 3) .skip))))
 (.exit 0)))
 (.seq (oQ [oA 15 2 1,oD 16 15,oA 17 3 1,oD 18 17,oW 19 (.arith .leq (.t 16) (.t 18)),oM 20 19,gA 21 4 1 20 true,gD 22 21 20 true,gW 23 (.arith .eql (.t 22) (.c (.str []))) 20 true,oW 24 (.pick (.t 20) (.t 23) (oB false)),oM 2 24]
 .ret)
 (.exit 0))))
 (oQ [oA 25 4 1,oD 26 25,oW 27 (.len 0 (.t 26)),oW 28 (.arith .eql (.t 27) (oI 12))]
 (.cond (.t 28) (oQ [oW 2 (.move (oB false))]
 .ret) .skip))))
 (.seq (oQ [oA 29 2 1,oD 30 29,oW 31 (.arith .eql (.t 30) (oI 0)),oM 32 31,gA 33 3 1 32 true,gD 34 33 32 true,gW 35 (.arith .eql (.t 34) (oI 0)) 32 true,oW 36 (.pick (.t 32) (.t 35) (oB false)),oM 37 36,gA 38 4 1 37 true,gD 39 38 37 true,gW 40 (.len 0 (.t 39)) 37 true,gW 41 (.arith .leq (.t 40) (oI 12)) 37 true,oW 42 (.pick (.t 37) (.t 41) (oB false)),oM 2 42]
 .ret)
 (.exit 0)))))
 (oQ [oW 2 (.move (oB false))]
 .ret))))}
theorem c151:compFunc Tryz.prog Tryz.f151 .pure=some t151:=by kernel_rfl
def t154l0:DCode :=
 (.seq (oQ [oM 15 9,oM 16 10,oW 17 (.arith .lss (.t 15) (.t 16))]
 (.cond (.t 17) .skip (.exit 0)))
 (.block 1 (oQ [oM 18 9,oM 19 10,oW 20 (.arith .add (.t 18) (.t 19)),oW 21 (.conv .u64 (.t 20)),oW 22 (.arith .shr (.t 21) (.c (.int .u64 1))),oW 23 (.conv .i64 (.t 22)),oM 11 23]
 (.seq (.draw [oRM 25 0,oRM 26 11,oR 27 (.indexAddr 7 (.t 25) (.t 26)),oRL 28 7 27,oRL 29 2 4,oRM 24 2,oW 30 (.call (.t 24) [.t 28,.t 29]),nK 31 (.arith .lss (.t 30) (oI 0)) .read 1])
 (.cond (.t 31) (.region [oM 32 11,oW 33 (.arith .add (.t 32) (oI 1)),oM 9 33]) (.region [oM 34 11,oM 10 34]))))))
def t154k0:DCode :=
 (.seq (.draw [oRM 36 9,oRM 37 8,oR 38 (.arith .lss (.t 36) (.t 37)),oRM 39 38,rM 41 0 39 true,rM 42 9 39 true,rW 43 (.indexAddr 7 (.t 41) (.t 42)) 39 true,rL 44 7 43 39 true,rL 45 2 4 39 true,rM 40 2 39 true,gW 46 (.call (.t 40) [.t 44,.t 45]) 39 true,oRM 35 9,⟨(some 47),.arith .eql (.t 46) (oI 0),(some (39,true)),.read,1,false⟩,nK 48 (.pick (.t 39) (.t 47) (oB false)) .read 1,nK 6 (.move (.t 35)) .read 1,nK 7 (.move (.t 48)) .read 1])
 .ret)
def t154:DFunc:={ntmps:=49,results:=[.t 6,.t 7],mode:=.pure,body :=
 (oQ [oW 4 (.box 37 2 (.t 1)),oW 6 (.move (oI 0)),oW 7 (.move (oB false))]
 (oQ [oM 12 0,oW 13 (.len 1 (.t 12)),oM 8 13]
 (oQ [oM 14 8,oW 9 (.move (oI 0)),oM 10 14]
 (.seq (.block 0 (.loop t154l0))
 t154k0))))}
theorem c154:compFunc Tryz.prog Tryz.f154 .pure=some t154:=by kernel_rfl
def t155:DFunc:={ntmps:=34,results:=[.t 5],mode:=.pure,body :=
 (oQ [oW 3 (.box 58 7 (.t 0)),oW 4 (.box 37 2 (.t 1)),oW 5 (.move (oI 0))]
 (.seq (.block 0 (oQ [oA 7 0 3,oL 8 2 7,oL 9 2 2,oW 10 (.eqa false [1,1] (.t 8) (.t 9)),oM 11 10,gA 12 2 3 11 true,gL 13 2 12 11 true,gL 14 2 4 11 true,gW 15 (.eqa false [1,1] (.t 13) (.t 14)) 11 true,oW 16 (.pick (.t 11) (.t 15) (oB false)),oM 6 16]
 (.cond (.t 6) (oQ [oW 5 (.move (oI 0))]
 .ret) (oQ [oA 18 0 3,oL 19 2 18,oL 20 2 2,oW 21 (.call (oF 56) [.t 19,.t 20]),oM 22 21,gA 23 0 3 22 false,gL 24 2 23 22 false,gL 25 2 2 22 false,gW 26 (.eqa false [1,1] (.t 24) (.t 25)) 22 false,gM 27 26 22 false,gA 28 2 3 27 true,gL 29 2 28 27 true,gL 30 2 4 27 true,gW 31 (.call (oF 56) [.t 29,.t 30]) 27 true,gW 32 (.pick (.t 27) (.t 31) (oB false)) 22 false,oW 33 (.pick (.t 22) (oB true) (.t 32)),oM 17 33]
 (.cond (.t 17) (oQ [oW 5 (.move (oI (-1)))]
 .ret) .skip)))))
 (oQ [oW 5 (.move (oI 1))]
 .ret)))}
theorem c155:compFunc Tryz.prog Tryz.f155 .pure=some t155:=by kernel_rfl
def t157:DFunc:={ntmps:=10,results:=[],mode:=.full,body :=
 (.region [oM 4 0,oM 5 0,oW 6 (.len 1 (.t 5)),oM 7 1,oW 8 (.arith .sub (.t 6) (.t 7)),oW 9 (.call (oF 187) [.t 4,.t 8])])}
theorem c157:compFunc Tryz.prog Tryz.f157 .full=some t157:=by kernel_rfl
def t158:DFunc:={ntmps:=50,results:=[.t 4],mode:=.pure,body :=
 (oQ [oW 2 (.box 62 5 (.t 0)),oW 3 (.box 62 5 (.t 1)),oW 4 (.move (oB false))]
 (.seq (.block 0 (oQ [oA 6 1 2,oD 7 6,oW 8 (.arith .eql (.t 7) (oI 1)),oM 5 8]
 (.cond (.t 5) (oQ [oA 9 1 3,oD 10 9,oW 11 (.arith .eql (.t 10) (oI 1)),oM 12 11,gA 13 2 2 12 true,gD 14 13 12 true,gA 15 2 3 12 true,gD 16 15 12 true,gW 17 (.arith .geq (.t 14) (.t 16)) 12 true,oW 18 (.pick (.t 12) (.t 17) (oB false)),oM 19 18,gA 20 3 2 19 true,gD 21 20 19 true,gA 22 3 3 19 true,gD 23 22 19 true,gW 24 (.arith .leq (.t 21) (.t 23)) 19 true,oW 25 (.pick (.t 19) (.t 24) (oB false)),oM 4 25]
 .ret) (oQ [oA 27 1 3,oD 28 27,oW 29 (.arith .eql (.t 28) (oI 2)),oM 26 29]
 (.cond (.t 26) (oQ [oA 30 1 2,oD 31 30,oW 32 (.arith .eql (.t 31) (oI 2)),oM 33 32,gA 34 4 2 33 true,gD 35 34 33 true,gA 36 4 3 33 true,gD 37 36 33 true,gW 38 (.arith .eql (.t 35) (.t 37)) 33 true,oW 39 (.pick (.t 33) (.t 38) (oB false)),oM 4 39]
 .ret) .skip)))))
 (oQ [oA 40 1 3,oD 41 40,oW 42 (.arith .eql (.t 41) (oI 3)),oM 43 42,gA 44 4 2 43 true,gD 45 44 43 true,gA 46 4 3 43 true,gD 47 46 43 true,gW 48 (.call (oF 188) [.t 45,.t 47]) 43 true,oW 49 (.pick (.t 43) (.t 48) (oB false)),oM 4 49]
 .ret)))}
theorem c158:compFunc Tryz.prog Tryz.f158 .pure=some t158:=by kernel_rfl
def t159l0:DCode :=
 (.seq (.seq (.draw [oRM 16 7,oRM 17 4,oR 18 (.len 1 (.t 17)),oR 19 (.arith .lss (.t 16) (.t 18)),oRM 20 19,rM 21 4 20 true,rM 22 7 20 true,rW 23 (.indexAddr 5 (.t 21) (.t 22)) 20 true,rA 24 0 23 20 true,rD 25 24 20 true,rA 26 0 6 20 true,rD 27 26 20 true,rW 28 (.arith .lss (.t 25) (.t 27)) 20 true,oR 29 (.pick (.t 20) (.t 28) (oB false))])
 (.cond (.t 29) .skip (.exit 2)))
 (.block 3 (.region [oM 30 7,oW 31 (.arith .add (.t 30) (oI 1)),oM 7 31])))
def t159k0:DCode :=
 (.seq (.seq (.draw [oRM 32 7,oRM 33 4,oR 34 (.len 1 (.t 33)),oR 35 (.arith .lss (.t 32) (.t 34)),oRM 36 35,rM 37 4 36 true,rM 38 7 36 true,rW 39 (.indexAddr 5 (.t 37) (.t 38)) 36 true,rA 40 0 39 36 true,rD 41 40 36 true,rA 42 0 6 36 true,rD 43 42 36 true,rW 44 (.arith .eql (.t 41) (.t 43)) 36 true,oR 45 (.pick (.t 36) (.t 44) (oB false))])
 (.cond (.t 45) (.seq (.draw [oRM 47 4,oRM 48 7,oR 49 (.indexAddr 5 (.t 47) (.t 48)),oRL 50 5 49,oRL 51 5 6,oW 52 (.call (oF 189) [.t 50,.t 51]),nK 46 (.move (.t 52)) .read 1,nK 53 (.extract (.t 46) 0) .read 1,nK 8 (.alloc 62 5 (.agg [.str [],.int .i64 0,.int .i64 0,.int .i64 0,.str []])) .create 0,⟨none,.store 5 (.t 8) (.t 53),none,.write,2,false⟩,nK 54 (.extract (.t 46) 1) .read 1,nK 9 (.move (.t 54)) .read 3])
 (.seq (oQ [oM 55 9,oW 56 (.un .not (.t 55))]
 (.cond (.t 56) (oQ [oW 2 (.move (.c .nsl)),oW 3 (.move (oB false))]
 .ret) .skip))
 (oQ [oW 57 (.buildSlice 62 5 (.agg [.str [],.int .i64 0,.int .i64 0,.int .i64 0,.str []]) 0 []),oM 58 4,oW 59 (.append 62 5 56 (.t 57) (.t 58)),oM 4 59]
 (oQ [oM 60 4,oM 61 7,oL 62 5 8,oW 63 (.indexAddr 5 (.t 60) (.t 61)),oS 5 63 62]
 (.exit 1))))) .skip))
 (.draw [oRM 65 4,oRM 66 7,oR 67 (.sliceSl 5 (.t 65) none (some (.t 66))),nK 64 (.buildSlice 62 5 (.agg [.str [],.int .i64 0,.int .i64 0,.int .i64 0,.str []]) 0 []) .create 0,nK 68 (.append 62 5 56 (.t 64) (.t 67)) .create 0,oRL 69 5 6,nK 70 (.buildSlice 62 5 (.agg [.str [],.int .i64 0,.int .i64 0,.int .i64 0,.str []]) 1 [(0,.t 69)]) .create 0,nK 71 (.append 62 5 56 (.t 68) (.t 70)) .create 0,oRM 72 4,oRM 73 7,oR 74 (.sliceSl 5 (.t 72) (some (.t 73)) none),nK 75 (.append 62 5 56 (.t 71) (.t 74)) .write 4,nK 4 (.move (.t 75)) .read 5]))
def t159k1:DCode :=
 (.region [oW 76 (.arith .add (.t 12) (oI 1)),oM 12 76])
def t159l1:DCode :=
 (oQ [oW 13 (.arith .lss (.t 12) (.t 11))]
 (.seq (.cond (.t 13) .skip (.exit 0))
 (.seq (.block 1 (oQ [oW 14 (.indexAddr 5 (.t 10) (.t 12)),oL 15 5 14,oW 6 (.alloc 62 5 (.agg [.str [],.int .i64 0,.int .i64 0,.int .i64 0,.str []])),oS 5 6 15]
 (oQ [oW 7 (.move (oI 0))]
 (.seq (.block 2 (.loop t159l0))
 t159k0))))
 t159k1)))
def t159k2:DCode :=
 (oQ [oM 77 4,oM 2 77,oW 3 (.move (oB true))]
 .ret)
def t159:DFunc:={ntmps:=78,results:=[.t 2,.t 3],mode:=.pure,body :=
 (oQ [oW 2 (.move (.c .nsl)),oW 3 (.move (oB false))]
 (oQ [oW 4 (.move (.c .nsl))]
 (.seq (oQ [oM 10 0,oW 11 (.len 1 (.t 10)),oW 12 (.move (oI 0))]
 (.block 0 (.loop t159l1)))
 t159k2)))}
theorem c159:compFunc Tryz.prog Tryz.f159 .pure=some t159:=by kernel_rfl
def t160l0:DCode :=
 (oQ [oW 16 (.arith .lss (.t 15) (.t 14))]
 (.seq (.cond (.t 16) .skip (.exit 0))
 (.seq (.block 1 (oQ [oM 17 15,oW 18 (.indexAddr 5 (.t 13) (.t 15)),oL 19 5 18,oW 5 (.alloc 62 5 (.agg [.str [],.int .i64 0,.int .i64 0,.int .i64 0,.str []])),oM 4 17,oS 5 5 19]
 (oQ [oL 20 5 5,oW 21 (.call (oF 151) [.t 20]),oW 22 (.un .not (.t 21))]
 (.cond (.t 22) (oQ [oM 23 4,oW 24 (.makeIface 225 (oI 1)),oW 25 (.call (oF 190) [(.c (.str [112,114,101,100])),.t 23,.t 24]),oW 2 (.move (.c .nsl)),oM 3 25]
 .ret) .skip))))
 (.region [oW 26 (.arith .add (.t 15) (oI 1)),oM 15 26]))))
def t160l1:DCode :=
 (oQ [oW 30 (.arith .lss (.t 29) (.t 28))]
 (.seq (.cond (.t 30) .skip (.exit 2))
 (.seq (.block 3 (oQ [oM 31 29,oW 32 (.indexAddr 5 (.t 27) (.t 29)),oL 33 5 32,oW 8 (.alloc 62 5 (.agg [.str [],.int .i64 0,.int .i64 0,.int .i64 0,.str []])),oM 7 31,oS 5 8 33]
 (oQ [oM 35 6,oA 36 0 8,oD 37 36,oW 38 (.call (oF 191) [.t 35,.t 37,oF 192]),oM 34 38,oX 39 34 0,oX 40 34 1,oM 9 39,oM 10 40]
 (.block 4 (oQ [oM 47 10,oM 46 47]
 (.cond (.t 46) (.seq (.draw [oRM 49 6,oRM 50 9,oR 51 (.indexAddr 5 (.t 49) (.t 50)),oRL 52 5 51,oRL 53 5 8,oW 54 (.call (oF 194) [.t 52,.t 53]),nK 48 (.move (.t 54)) .read 1,nK 55 (.extract (.t 48) 0) .read 1,nK 11 (.alloc 62 5 (.agg [.str [],.int .i64 0,.int .i64 0,.int .i64 0,.str []])) .create 0,⟨none,.store 5 (.t 11) (.t 55),none,.write,2,false⟩,nK 56 (.extract (.t 48) 1) .read 1,nK 12 (.move (.t 56)) .read 3])
 (.seq (oQ [oM 57 12,oW 58 (.un .not (.t 57))]
 (.cond (.t 58) (oQ [oM 59 7,oW 60 (.makeIface 225 (oI 5)),oW 61 (.call (oF 190) [(.c (.str [112,114,101,100])),.t 59,.t 60]),oW 2 (.move (.c .nsl)),oM 3 61]
 .ret) .skip))
 (.region [oM 62 6,oM 63 9,oL 64 5 11,oW 65 (.indexAddr 5 (.t 62) (.t 63)),oS 5 65 64]))) (oQ [oM 67 6,oW 68 (.len 1 (.t 67)),oW 69 (.arith .eql (.t 68) (oI 5)),oM 66 69]
 (.cond (.t 66) (oQ [oM 70 7,oW 71 (.makeIface 225 (oI 7)),oW 72 (.call (oF 190) [(.c (.str [112,114,101,100])),.t 70,.t 71]),oW 2 (.move (.c .nsl)),oM 3 72]
 .ret) (.region [oM 41 6,oM 42 9,oL 43 5 8,oW 44 (.buildSlice 62 5 (.agg [.str [],.int .i64 0,.int .i64 0,.int .i64 0,.str []]) 1 [(0,.t 43)]),oW 45 (.call (oF 195) [.t 41,.t 42,.t 44]),oM 6 45])))))))))
 (.region [oW 73 (.arith .add (.t 29) (oI 1)),oM 29 73]))))
def t160k0:DCode :=
 (oQ [oM 74 6,oM 2 74,oW 3 (.move (.c .nili))]
 .ret)
def t160k1:DCode :=
 (oQ [oW 6 (.move (.c .nsl))]
 (.seq (oQ [oM 27 0,oW 28 (.len 1 (.t 27)),oW 29 (.move (oI 0))]
 (.block 2 (.loop t160l1)))
 t160k0))
def t160:DFunc:={ntmps:=75,results:=[.t 2,.t 3],mode:=.pure,body :=
 (oQ [oW 2 (.move (.c .nsl)),oW 3 (.move (.c .nili))]
 (.seq (oQ [oM 13 0,oW 14 (.len 1 (.t 13)),oW 15 (.move (oI 0))]
 (.block 0 (.loop t160l0)))
 t160k1))}
theorem c160:compFunc Tryz.prog Tryz.f160 .pure=some t160:=by kernel_rfl
def t161l0:DCode :=
 (oQ [oW 10 (.arith .lss (.t 9) (.t 8))]
 (.seq (.cond (.t 10) .skip (.exit 0))
 (.seq (.block 1 (oQ [oW 11 (.indexAddr 5 (.t 7) (.t 9)),oL 12 5 11,oW 5 (.alloc 62 5 (.agg [.str [],.int .i64 0,.int .i64 0,.int .i64 0,.str []])),oS 5 5 12]
 (oQ [oA 13 4 5,oD 14 13,oW 15 (.call (oF 168) [.t 14]),oW 6 (.alloc 202 3 (.agg [.bool false,.int .i64 0,.str []])),oS 3 6 15]
 (.seq (oQ [oA 16 1 5,oD 17 16,oW 18 (.arith .eql (.t 17) (oI 1))]
 (.cond (.t 18) (.region [oA 19 2 5,oD 20 19,oW 21 (.call (oF 196) [.t 20]),oS 3 6 21]) .skip))
 (.region [oM 22 3,oA 23 0 5,oD 24 23,oL 25 3 6,oW 26 (.build [.str [],.bool false,.int .i64 0,.str []] [(0,1,.t 24),(1,3,.t 25)]),oW 27 (.buildSlice 206 4 (.agg [.str [],.bool false,.int .i64 0,.str []]) 1 [(0,.t 26)]),oW 28 (.append 206 4 48 (.t 22) (.t 27)),oM 3 28])))))
 (.region [oW 29 (.arith .add (.t 9) (oI 1)),oM 9 29]))))
def t161k0:DCode :=
 (oQ [oM 30 3,oM 2 30]
 .ret)
def t161:DFunc:={ntmps:=31,results:=[.t 2],mode:=.pure,body :=
 (oQ [oW 2 (.move (.c .nsl))]
 (oQ [oW 3 (.move (.c .nsl))]
 (.seq (oQ [oM 7 0,oW 8 (.len 1 (.t 7)),oW 9 (.move (oI 0))]
 (.block 0 (.loop t161l0)))
 t161k0)))}
theorem c161:compFunc Tryz.prog Tryz.f161 .pure=some t161:=by kernel_rfl
def t166:DFunc:={ntmps:=8,results:=[.t 4],mode:=.pure,body :=
 (oQ [oW 4 (.move (oB false))]
 (oQ [oM 5 0,oM 6 1,oW 7 (.call (oF 198) [.t 5,.t 6]),oM 4 7]
 .ret))}
theorem c166:compFunc Tryz.prog Tryz.f166 .pure=some t166:=by kernel_rfl
def t167:DFunc:={ntmps:=48,results:=[.t 4],mode:=.pure,body :=
 (oQ [oW 2 (.box 62 5 (.t 0)),oW 3 (.box 202 3 (.t 1)),oW 4 (.move (oB false))]
 (.seq (oQ [oA 5 1 2,oD 6 5]
 (.block 0 (oQ [oW 8 (.arith .eql (.t 6) (oI 1)),oM 7 8]
 (.cond (.t 7) (oQ [oA 9 0 3,oD 10 9,oW 11 (.un .not (.t 10)),oM 12 11,gA 13 2 2 12 true,gD 14 13 12 true,gA 15 1 3 12 true,gD 16 15 12 true,gW 17 (.arith .leq (.t 14) (.t 16)) 12 true,oW 18 (.pick (.t 12) (.t 17) (oB false)),oM 19 18,gA 20 1 3 19 true,gD 21 20 19 true,gA 22 3 2 19 true,gD 23 22 19 true,gW 24 (.arith .leq (.t 21) (.t 23)) 19 true,oW 25 (.pick (.t 19) (.t 24) (oB false)),oM 4 25]
 .ret) (oQ [oW 27 (.arith .eql (.t 6) (oI 2)),oM 26 27]
 (.cond (.t 26) (oQ [oA 28 0 3,oD 29 28,oM 30 29,gA 31 2 3 30 true,gD 32 31 30 true,gA 33 4 2 30 true,gD 34 33 30 true,gW 35 (.arith .eql (.t 32) (.t 34)) 30 true,oW 36 (.pick (.t 30) (.t 35) (oB false)),oM 4 36]
 .ret) (oQ [oW 38 (.arith .eql (.t 6) (oI 3)),oM 37 38]
 (.cond (.t 37) (oQ [oA 39 0 3,oD 40 39,oM 41 40,gA 42 2 3 41 true,gD 43 42 41 true,gA 44 4 2 41 true,gD 45 44 41 true,gW 46 (.call (oF 166) [.t 43,.t 45]) 41 true,oW 47 (.pick (.t 41) (.t 46) (oB false)),oM 4 47]
 .ret) .skip))))))))
 (oQ [oW 4 (.move (oB false))]
 .ret)))}
theorem c167:compFunc Tryz.prog Tryz.f167 .pure=some t167:=by kernel_rfl
def t168:DFunc:={ntmps:=5,results:=[(.cell 2 (some 3))],mode:=.pure,body :=
 (oQ [oW 2 (.alloc 202 3 (.agg [.bool false,.int .i64 0,.str []]))]
 (oQ [oM 3 0,oW 4 (.build [.bool false,.int .i64 0,.str []] [(0,1,oB true),(2,1,.t 3)]),oS 3 2 4]
 .ret))}
theorem c168:compFunc Tryz.prog Tryz.f168 .pure=some t168:=by kernel_rfl
end Go.Dm.Tc
