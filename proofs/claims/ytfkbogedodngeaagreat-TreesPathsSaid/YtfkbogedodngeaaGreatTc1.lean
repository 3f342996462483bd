/- A part of the proof. -/
import Derived.Test.YtfkbogedodngeaaGreatTc0
import Derived.Test.YtfkbogedodngeaaGreatMm4
import Derived.Test.YtfkbogedodngeaaGreatRows
import Derived.KernelRfl
namespace Go.Dm.Tc
open Go.Proofs
def t54:aK:={ntmps:=8,results:=[.t 2],mode:=.full,body :=
 (oQ [oW 1 (.box 66 2 (.t 0)),oW 2 (.move (.c .nilp))]
 (oQ [oL 3 2 1,oW 4 (.call (oF 101) [.t 3]),oW 5 (.makeMap),oW 6 (.build [.nsl,.nmap] [(0,1,.t 4),(1,1,.t 5)]),oW 7 (.box 179 2 (.t 6)),oM 2 7]
 .ret))}
theorem c54:aD Tryz.prog Tryz.f54 .full=some t54:=by kernel_rfl
def E9:aI :=
 (oQ [oW 12 (.arith .lss (.t 11) (.t 10))]
 (.seq (.cond (.t 12) .skip (.exit 0))
 (.seq (.block 1 (oQ [oW 13 (.indexAddr 2 (.t 9) (.t 11)),oL 14 2 13,oW 7 (.alloc 76 2 (.agg [.int .i64 0,.int .i64 0])),oS 2 7 14]
 (.block 2 (oQ [oL 16 2 2,oL 17 2 7,oW 18 (.call (oF 98) [.t 16,.t 17]),oW 19 (.un .not (.t 18)),oM 15 19]
 (.cond (.t 15) .skip (oQ [oW 21 (.indexArr 2 1 (.t 7) (oI 0)),oD 22 21,oM 23 1,oW 24 (.arith .eql (.t 22) (.t 23)),oM 20 24]
 (.cond (.t 20) (.region [oM 25 5,oW 26 (.indexArr 2 1 (.t 7) (oI 1)),oD 27 26,oW 28 (.buildSlice 3 1 (.int .i64 0) 1 [(0,.t 27)]),oW 29 (.append 3 1 8 (.t 25) (.t 28)),oM 5 29]) (oQ [oW 31 (.indexArr 2 1 (.t 7) (oI 1)),oD 32 31,oM 33 1,oW 34 (.arith .eql (.t 32) (.t 33)),oM 30 34]
 (.cond (.t 30) (.region [oM 35 5,oW 36 (.indexArr 2 1 (.t 7) (oI 0)),oD 37 36,oW 38 (.buildSlice 3 1 (.int .i64 0) 1 [(0,.t 37)]),oW 39 (.append 3 1 8 (.t 35) (.t 38)),oM 5 39]) .skip)))))))))
 (.region [oW 40 (.arith .add (.t 11) (oI 1)),oM 11 40]))))
def Qb:aI :=
 (oQ [oM 41 5,oW 42 (.call (oF 37) [.t 41])]
 (oQ [oM 43 5,oW 44 (.call (oF 38) [.t 43]),oM 4 44]
 .ret))
def t55:aK:={ntmps:=45,results:=[.t 4],mode:=.pure,body :=
 (oQ [oW 2 (.box 66 2 (.t 0)),oW 4 (.move (.c .nsl))]
 (oQ [oW 5 (.move (.c .nsl))]
 (.seq (oQ [oA 8 1 2,oD 9 8,oW 10 (.len 1 (.t 9)),oW 11 (.move (oI 0))]
 (.block 0 (.loop E9)))
 Qb)))}
theorem c55:aD Tryz.prog Tryz.f55 .pure=some t55:=by kernel_rfl
def t56:aK:={ntmps:=39,results:=[.t 6],mode:=.full,body :=
 (oQ [oW 6 (.move (.c .nili))]
 (.seq (oQ [oM 9 0,oM 10 1,oW 11 (.call (oF 102) [.t 9,.t 10]),oW 12 (.un .not (.t 11))]
 (.cond (.t 12) (oQ [oM 13 1,oW 14 (.makeIface 171 (oI 3)),oW 15 (.call (oF 52) [(.c (.str [110,101,116])),.t 13,.t 14]),oM 6 15]
 .ret) .skip))
 (oQ [oM 17 2,oM 18 0,oW 19 (.nilCheck (.t 18)),oA 20 2 19,oD 21 20,oM 22 1,oW 23 (.indexAddr 6 (.t 21) (.t 22)),oL 24 6 23,oW 25 (.call (.t 17) [.t 24]),oM 16 25,oX 26 16 0,oX 27 16 1,oW 7 (.alloc 31 6 (.agg [.int .i64 0,.nsl,.nsl,.nsl,.nsl,.nsl])),oS 6 7 26,oM 8 27]
 (.seq (.draw [oRM 28 0,oR 29 (.nilCheck (.t 28)),oRA 30 2 29,oRD 31 30,oRL 33 6 7,oRM 32 1,oR 34 (.indexAddr 6 (.t 31) (.t 32)),oS 6 34 33])
 (oQ [oM 35 0,oM 36 1,oM 37 8,oW 38 (.call (oF 64) [.t 35,.t 36,.t 37])]
 (oQ [oW 6 (.move (.c .nili))]
 .ret))))))}
theorem c56:aD Tryz.prog Tryz.f56 .full=some t56:=by kernel_rfl
def t57:aK:={ntmps:=12,results:=[(.cell 4 (some 6)),.t 5],mode:=.full,body :=
 (oQ [oW 3 (.box 31 6 (.t 0)),oW 4 (.alloc 31 6 (.agg [.int .i64 0,.nsl,.nsl,.nsl,.nsl,.nsl])),oW 5 (.move (.c .nsl))]
 (oQ [oL 6 6 3,oL 7 2 1,oD 8 2,oW 9 (.call (oF 58) [.t 6,(oI (-1)),.t 7,.t 8]),oX 10 9 0,oX 11 9 1,oS 6 4 10,oM 5 11]
 .ret))}
theorem c57:aD Tryz.prog Tryz.f57 .full=some t57:=by kernel_rfl
def NL:aI :=
 (oQ [oW 39 (.arith .lss (.t 38) (.t 37))]
 (.seq (.cond (.t 39) .skip (.exit 0))
 (.seq (.block 1 (oQ [oW 40 (.indexAddr 3 (.t 36) (.t 38)),oL 41 3 40,oW 14 (.alloc 102 3 (.agg [.int .i64 0,.int .i64 0,.nsl])),oS 3 14 41]
 (.seq (oQ [oA 42 2 14,oD 43 42,oM 44 3,oW 45 (.call (oF 45) [.t 43,.t 44]),oW 46 (.un .not (.t 45))]
 (.cond (.t 46) (.exit 1) .skip))
 (oQ [oL 47 2 6,oA 48 0 14,oL 49 2 48,oA 50 2 14,oD 51 50,oW 52 (.build [.int .i64 0,.int .i64 0,.int .i64 0,.int .i64 0,.nsl,.int .i64 0,.bool false] [(0,2,.t 47),(2,2,.t 49),(4,1,.t 51),(5,1,(oI (-1)))]),oW 15 (.alloc 58 7 (.agg [.int .i64 0,.int .i64 0,.int .i64 0,.int .i64 0,.nsl,.int .i64 0,.bool false])),oS 7 15 52]
 (oQ [oW 16 (.move (oB false))]
 (oQ [oL 54 6 10,oL 55 7 15,oW 56 (.call (oF 92) [.t 54,.t 55]),oM 53 56,oX 57 53 0,oX 58 53 1,oS 6 10 57,oM 16 58]
 (oQ [oM 59 16]
 (.cond (.t 59) (.region [oM 60 12,oM 61 1,oL 62 7 15,oW 63 (.call (oF 93) [.t 62]),oW 64 (.build [.int .i64 0,.int .i64 0,.int .i64 0,.int .i64 0,.int .i64 0,.int .i64 0,.nsl,.nsl] [(0,1,.t 61),(1,7,.t 63)]),oW 65 (.buildSlice 54 8 (.agg [.int .i64 0,.int .i64 0,.int .i64 0,.int .i64 0,.int .i64 0,.int .i64 0,.nsl,.nsl]) 1 [(0,.t 64)]),oW 66 (.append 54 8 96 (.t 60) (.t 65)),oM 12 66]) .skip))))))))
 (.region [oW 67 (.arith .add (.t 38) (oI 1)),oM 38 67]))))
def NM:aI :=
 (oQ [oL 68 6 10,oM 69 12,oS 6 8 68,oM 9 69]
 .ret)
def t58:aK:={ntmps:=70,results:=[(.cell 8 (some 6)),.t 9],mode:=.frz,body :=
 (oQ [oW 4 (.box 31 6 (.t 0)),oW 6 (.box 24 2 (.t 2)),oW 8 (.alloc 31 6 (.agg [.int .i64 0,.nsl,.nsl,.nsl,.nsl,.nsl])),oW 9 (.move (.c .nsl))]
 (oQ [oL 18 6 4,oL 19 2 6,oM 20 3,oM 21 1,oW 22 (.build [.int .i64 0,.int .i64 0,.nsl,.int .i64 0] [(0,2,.t 19),(2,1,.t 20),(3,1,.t 21)]),oW 23 (.call (oF 6) [.t 18,.t 22]),oM 17 23,oX 24 17 0,oX 25 17 1,oW 10 (.alloc 31 6 (.agg [.int .i64 0,.nsl,.nsl,.nsl,.nsl,.nsl])),oS 6 10 24,oM 11 25]
 (.seq (oQ [oM 26 11,oW 27 (.un .not (.t 26))]
 (.cond (.t 27) (oQ [oL 28 6 4,oS 6 8 28,oW 9 (.move (.c .nsl))]
 .ret) .skip))
 (oQ [oL 29 6 4,oM 30 1,oL 31 2 6,oM 32 3,oW 33 (.build [.int .i64 0,.int .i64 0,.int .i64 0,.int .i64 0,.int .i64 0,.nsl,.nsl] [(0,1,oI 1),(1,2,.t 31),(5,1,.t 32)]),oW 34 (.call (oF 103) [.t 29,.t 30,.t 33]),oM 12 34]
 (.seq (oQ [oA 35 5 4,oD 36 35,oW 37 (.len 1 (.t 36)),oW 38 (.move (oI 0))]
 (.block 0 (.loop NL)))
 NM)))))}
theorem c58:aD Tryz.prog Tryz.f58 .frz=some t58:=by kernel_rfl
def E7:aI :=
 (oQ [oW 12 (.arith .lss (.t 11) (.t 10))]
 (.seq (.cond (.t 12) .skip (.exit 0))
 (.seq (.block 1 (oQ [oW 13 (.indexAddr 2 (.t 9) (.t 11)),oL 14 2 13,oW 5 (.alloc 76 2 (.agg [.int .i64 0,.int .i64 0])),oS 2 5 14]
 (.seq (.draw [oRM 15 0,oR 16 (.nilCheck (.t 15)),oRA 17 1 16,oRD 18 17,oRL 19 2 5,oR 20 (.lookup (.agg [1,1]) .nsl false (.t 18) (.t 19)),oR 21 (.len 1 (.t 20)),oR 22 (.arith .gtr (.t 21) (oI 0))])
 (.cond (.t 22) (.region [oM 23 3,oL 24 2 5,oW 25 (.buildSlice 76 2 (.agg [.int .i64 0,.int .i64 0]) 1 [(0,.t 24)]),oW 26 (.append 76 2 16 (.t 23) (.t 25)),oM 3 26]) .skip))))
 (.region [oW 27 (.arith .add (.t 11) (oI 1)),oM 11 27]))))
def E8:aI :=
 (oQ [oM 28 3,oM 2 28]
 .ret)
def t59:aK:={ntmps:=29,results:=[.t 2],mode:=.full,body :=
 (oQ [oW 2 (.move (.c .nsl))]
 (oQ [oW 3 (.move (.c .nsl))]
 (.seq (oQ [oM 6 0,oW 7 (.nilCheck (.t 6)),oA 8 0 7,oD 9 8,oW 10 (.len 1 (.t 9)),oW 11 (.move (oI 0))]
 (.block 0 (.loop E7)))
 E8)))}
theorem c59:aD Tryz.prog Tryz.f59 .full=some t59:=by kernel_rfl
def t61:aK:={ntmps:=26,results:=[(.cell 6 (some 6)),.t 7],mode:=.frz,body :=
 (oQ [oW 3 (.box 31 6 (.t 0)),oW 5 (.box 24 2 (.t 2)),oW 6 (.alloc 31 6 (.agg [.int .i64 0,.nsl,.nsl,.nsl,.nsl,.nsl])),oW 7 (.move (.c .nsl))]
 (oQ [oL 11 6 3,oL 12 2 5,oM 13 1,oW 14 (.call (oF 104) [.t 11,.t 12,.t 13]),oM 10 14,oX 15 10 0,oX 16 10 1,oW 8 (.alloc 31 6 (.agg [.int .i64 0,.nsl,.nsl,.nsl,.nsl,.nsl])),oS 6 8 15,oM 9 16]
 (.seq (oQ [oM 17 9,oW 18 (.un .not (.t 17))]
 (.cond (.t 18) (oQ [oL 19 6 3,oS 6 6 19,oW 7 (.move (.c .nsl))]
 .ret) .skip))
 (.seq (.draw [oRL 20 6 8,oRL 21 6 3,oRL 23 2 5,oRM 22 1,oR 24 (.build [.int .i64 0,.int .i64 0,.int .i64 0,.int .i64 0,.int .i64 0,.nsl,.nsl] [(0,1,oI 2),(1,2,.t 23)]),nK 25 (.call (oF 103) [.t 21,.t 22,.t 24]) .create 0,⟨none,.store 6 (.t 6) (.t 20),none,.write,1,false⟩,nK 7 (.move (.t 25)) .read 2])
 .ret))))}
theorem c61:aD Tryz.prog Tryz.f61 .frz=some t61:=by kernel_rfl
def t62:aK:={ntmps:=35,results:=[(.cell 6 (some 7)),.t 7],mode:=.full,body :=
 (oQ [oW 6 (.alloc 52 7 (.agg [.int .i64 0,.int .i64 0,.int .i64 0,.int .i64 0,.int .i64 0,.nsl,.nsl])),oW 7 (.move (.c .nili))]
 (oQ [oM 10 1,oM 11 2,oW 12 (.build [.int .i64 0,.int .i64 0] [(0,1,.t 10),(1,1,.t 11)]),oW 8 (.alloc 76 2 (.agg [.int .i64 0,.int .i64 0])),oS 2 8 12]
 (.seq (.draw [oRM 13 0,oR 14 (.nilCheck (.t 13)),oRA 15 1 14,oRD 16 15,oRL 17 2 8,oR 18 (.lookup (.agg [1,1]) .nsl false (.t 16) (.t 17)),oRM 9 18])
 (.seq (oQ [oM 19 9,oW 20 (.len 1 (.t 19)),oW 21 (.arith .eql (.t 20) (oI 0))]
 (.cond (.t 21) (oQ [oW 22 (.build [.int .i64 0,.int .i64 0,.int .i64 0,.int .i64 0,.int .i64 0,.nsl,.nsl] []),oM 23 1,oW 24 (.call (oF 105) [.t 23]),oS 7 6 22,oM 7 24]
 .ret) .skip))
 (.seq (.draw [oRM 25 0,oR 26 (.nilCheck (.t 25)),oRA 27 1 26,oRD 28 27,oRL 29 2 8,oRM 30 9,oR 31 (.sliceSl 7 (.t 30) (some (oI 1)) none),oZ (.mapUpdate (.agg [1,1]) (.t 28) (.t 29) (.t 31))])
 (oQ [oM 32 9,oW 33 (.indexAddr 7 (.t 32) (oI 0)),oL 34 7 33,oS 7 6 34,oW 7 (.move (.c .nili))]
 .ret))))))}
theorem c62:aD Tryz.prog Tryz.f62 .full=some t62:=by kernel_rfl
def t63:aK:={ntmps:=68,results:=[(.cell 6 (some 6)),.t 7,.t 8],mode:=.frz,body :=
 (oQ [oW 3 (.box 31 6 (.t 0)),oW 5 (.box 52 7 (.t 2)),oW 6 (.alloc 31 6 (.agg [.int .i64 0,.nsl,.nsl,.nsl,.nsl,.nsl])),oW 7 (.move (.c .nsl)),oW 8 (.move (.c .nsl))]
 (oQ [oW 9 (.move (.c .nsl))]
 (.seq (oQ [oA 12 0 5,oD 13 12]
 (.block 0 (oQ [oW 15 (.arith .eql (.t 13) (oI 1)),oM 14 15]
 (.cond (.t 14) (.region [oL 17 6 3,oM 18 1,oA 19 1 5,oL 20 2 19,oA 21 5 5,oD 22 21,oW 23 (.call (oF 58) [.t 17,.t 18,.t 20,.t 22]),oM 16 23,oX 24 16 0,oX 25 16 1,oS 6 3 24,oM 9 25]) (oQ [oW 27 (.arith .eql (.t 13) (oI 2)),oM 26 27]
 (.cond (.t 26) (.region [oL 29 6 3,oM 30 1,oA 31 1 5,oL 32 2 31,oW 33 (.call (oF 61) [.t 29,.t 30,.t 32]),oM 28 33,oX 34 28 0,oX 35 28 1,oS 6 3 34,oM 9 35]) (oQ [oW 37 (.arith .eql (.t 13) (oI 3)),oM 36 37]
 (.cond (.t 36) (.region [oL 39 6 3,oM 40 1,oL 41 7 5,oW 42 (.call (oF 12) [.t 39,.t 40,.t 41]),oM 38 42,oX 43 38 0,oX 44 38 1,oS 6 3 43,oM 9 44]) (oQ [oW 46 (.arith .eql (.t 13) (oI 4)),oM 45 46]
 (.cond (.t 45) (.region [oL 48 6 3,oM 49 1,oL 50 7 5,oW 51 (.call (oF 13) [.t 48,.t 49,.t 50]),oM 47 51,oX 52 47 0,oX 53 47 1,oS 6 3 52,oM 9 53]) (oQ [oW 55 (.arith .eql (.t 13) (oI 5)),oM 54 55]
 (.cond (.t 54) (oQ [oL 57 6 3,oM 58 1,oL 59 7 5,oW 60 (.call (oF 106) [.t 57,.t 58,.t 59]),oM 56 60,oX 61 56 0,oX 62 56 1,oM 10 61,oM 11 62]
 (oQ [oL 63 6 3,oM 64 10,oM 65 11,oS 6 6 63,oM 7 64,oM 8 65]
 .ret)) .skip))))))))))))
 (oQ [oL 66 6 3,oM 67 9,oS 6 6 66,oM 7 67,oW 8 (.move (.c .nsl))]
 .ret))))}
theorem c63:aD Tryz.prog Tryz.f63 .frz=some t63:=by kernel_rfl
def E6:aI :=
 (oQ [oW 11 (.arith .lss (.t 10) (.t 9))]
 (.seq (.cond (.t 11) .skip (.exit 0))
 (.seq (.block 1 (oQ [oW 12 (.indexAddr 8 (.t 8) (.t 10)),oL 13 8 12,oW 7 (.alloc 54 8 (.agg [.int .i64 0,.int .i64 0,.int .i64 0,.int .i64 0,.int .i64 0,.int .i64 0,.nsl,.nsl])),oS 8 7 13]
 (.seq (.draw [oRM 14 0,oR 15 (.nilCheck (.t 14)),oRA 16 3 15,oRD 17 16,oRA 19 0 7,oRD 20 19,oRA 21 1 7,oRL 22 7 21,oRM 18 1,nK 23 (.buildSlice 52 7 (.agg [.int .i64 0,.int .i64 0,.int .i64 0,.int .i64 0,.int .i64 0,.nsl,.nsl]) 1 [(0,.t 22)]) .create 0,nK 24 (.call (oF 107) [.t 17,.t 18,.t 20,.t 23]) .write 1])
 (oQ [oA 25 1 7,oA 26 0 25,oD 27 26,oW 28 (.arith .eql (.t 27) (oI 5))]
 (.cond (.t 28) (.draw [oRM 30 0,oR 31 (.nilCheck (.t 30)),oRA 32 4 31,oRD 33 32,oRA 35 0 7,oRD 36 35,oRA 37 1 7,oRA 38 3 37,oRL 39 2 38,oRM 34 1,oR 40 (.build [.int .i64 0,.int .i64 0,.int .i64 0,.int .i64 0] [(0,1,.t 34),(1,1,.t 36),(2,2,.t 39)]),nK 41 (.buildSlice 189 4 (.agg [.int .i64 0,.int .i64 0,.int .i64 0,.int .i64 0]) 1 [(0,.t 40)]) .create 0,nK 42 (.append 189 4 32 (.t 33) (.t 41)) .write 1,oRM 29 0,nK 43 (.nilCheck (.t 29)) .read 2,nK 44 (.fieldAddr 4 (.t 43)) .read 2,⟨none,.store 1 (.t 44) (.t 42),none,.write,2,false⟩]) .skip)))))
 (.region [oW 45 (.arith .add (.t 10) (oI 1)),oM 10 45]))))
def t64:aK:={ntmps:=46,results:=[],mode:=.full,body :=
 (oQ [oM 8 2,oW 9 (.len 1 (.t 8)),oW 10 (.move (oI 0))]
 (.block 0 (.loop E6)))}
theorem c64:aD Tryz.prog Tryz.f64 .full=some t64:=by kernel_rfl
def t65:aK:={ntmps:=8,results:=[(.cell 2 (some 2))],mode:=.full,body :=
 (oQ [oW 2 (.alloc 66 2 (.agg [.int .i64 0,.nsl]))]
 (oQ [oM 3 0,oW 4 (.nilCheck (.t 3)),oA 5 0 4,oL 6 2 5,oW 7 (.call (oF 53) [.t 6]),oS 2 2 7]
 .ret))}
theorem c65:aD Tryz.prog Tryz.f65 .full=some t65:=by kernel_rfl
def t66:aK:={ntmps:=22,results:=[(.cell 4 (some 4)),.t 5],mode:=.pure,body :=
 (oQ [oW 2 (.box 31 6 (.t 0)),oW 3 (.box 24 2 (.t 1)),oW 4 (.alloc 37 4 (.agg [.int .i64 0,.int .i64 0,.nsl,.int .i64 0])),oW 5 (.move (oB false))]
 (oQ [oL 9 6 2,oL 10 2 3,oW 11 (.call (oF 33) [.t 9,.t 10]),oM 8 11,oX 12 8 0,oX 13 8 1,oM 6 12,oM 7 13]
 (.seq (oQ [oM 14 7,oW 15 (.un .not (.t 14))]
 (.cond (.t 15) (oQ [oW 16 (.build [.int .i64 0,.int .i64 0,.nsl,.int .i64 0] []),oS 4 4 16,oW 5 (.move (oB false))]
 .ret) .skip))
 (oQ [oA 17 2 2,oD 18 17,oM 19 6,oW 20 (.indexAddr 4 (.t 18) (.t 19)),oL 21 4 20,oS 4 4 21,oW 5 (.move (oB true))]
 .ret))))}
theorem c66:aD Tryz.prog Tryz.f66 .pure=some t66:=by kernel_rfl
def t67:aK:={ntmps:=39,results:=[(.cell 4 (some 6))],mode:=.full,body :=
 (oQ [oW 4 (.alloc 31 6 (.agg [.int .i64 0,.nsl,.nsl,.nsl,.nsl,.nsl]))]
 (.seq (oQ [oM 6 0,oM 7 1,oW 8 (.call (oF 102) [.t 6,.t 7]),oW 9 (.un .not (.t 8))]
 (.cond (.t 9) (oQ [oW 10 (.build [.int .i64 0,.nsl,.nsl,.nsl,.nsl,.nsl] []),oS 6 4 10]
 .ret) .skip))
 (oQ [oM 11 0,oW 12 (.nilCheck (.t 11)),oA 13 2 12,oD 14 13,oM 15 1,oW 16 (.indexAddr 6 (.t 14) (.t 15)),oL 17 6 16,oW 5 (.alloc 31 6 (.agg [.int .i64 0,.nsl,.nsl,.nsl,.nsl,.nsl])),oS 6 5 17]
 (.seq (.draw [oRA 18 1 5,oRD 19 18,nK 20 (.call (oF 36) [.t 19]) .create 0,oRA 21 2 5,oRD 22 21,nK 23 (.call (oF 72) [.t 22]) .create 0,oRA 24 3 5,oRD 25 24,nK 26 (.call (oF 73) [.t 25]) .create 0,oRA 27 4 5,oRD 28 27,nK 29 (.call (oF 74) [.t 28]) .create 0,oRA 30 5 5,oRD 31 30,nK 32 (.call (oF 44) [.t 31]) .write 4,nK 33 (.fieldAddr 1 (.t 5)) .read 1,⟨none,.store 1 (.t 33) (.t 20),none,.write,5,false⟩,nK 34 (.fieldAddr 2 (.t 5)) .read 6,⟨none,.store 1 (.t 34) (.t 23),none,.write,6,false⟩,nK 35 (.fieldAddr 3 (.t 5)) .read 7,⟨none,.store 1 (.t 35) (.t 26),none,.write,7,false⟩,nK 36 (.fieldAddr 4 (.t 5)) .read 8,⟨none,.store 1 (.t 36) (.t 29),none,.write,8,false⟩,nK 37 (.fieldAddr 5 (.t 5)) .read 9,⟨none,.store 1 (.t 37) (.t 32),none,.write,9,false⟩])
 (oQ [oL 38 6 5,oS 6 4 38]
 .ret)))))}
theorem c67:aD Tryz.prog Tryz.f67 .full=some t67:=by kernel_rfl
def TW:aI :=
 (.seq (oQ [oM 11 5,oM 12 0,oW 13 (.len 1 (.t 12)),oW 14 (.arith .lss (.t 11) (.t 13))]
 (.cond (.t 14) .skip (.exit 0)))
 (.seq (.block 1 (.seq (.draw [oRM 17 0,oRM 18 5,oR 19 (.indexAddr 1 (.t 17) (.t 18)),oRD 20 19,oRM 21 1,oRM 22 5,oR 23 (.indexAddr 1 (.t 21) (.t 22)),oRD 24 23,oR 25 (.arith .neq (.t 20) (.t 24))])
 (.cond (.t 25) (oQ [oW 4 (.move (oB false))]
 .ret) .skip)))
 (.region [oM 15 5,oW 16 (.arith .add (.t 15) (oI 1)),oM 5 16])))
def TX:aI :=
 (oQ [oW 4 (.move (oB true))]
 .ret)
def t68:aK:={ntmps:=26,results:=[.t 4],mode:=.pure,body :=
 (oQ [oW 4 (.move (oB false))]
 (.seq (oQ [oM 6 0,oW 7 (.len 1 (.t 6)),oM 8 1,oW 9 (.len 1 (.t 8)),oW 10 (.arith .neq (.t 7) (.t 9))]
 (.cond (.t 10) (oQ [oW 4 (.move (oB false))]
 .ret) .skip))
 (.seq (oQ [oW 5 (.move (oI 0))]
 (.block 0 (.loop TW)))
 TX)))}
theorem c68:aD Tryz.prog Tryz.f68 .pure=some t68:=by kernel_rfl
def t69:aK:={ntmps:=9,results:=[.t 4],mode:=.pure,body :=
 (oQ [oW 4 (.move (oB false))]
 (oQ [oM 5 0,oM 6 1,oW 7 (.call (oF 108) [.t 5,.t 6]),oW 8 (.arith .geq (.t 7) (oI 0)),oM 4 8]
 .ret))}
theorem c69:aD Tryz.prog Tryz.f69 .pure=some t69:=by kernel_rfl
def t70:aK:={ntmps:=13,results:=[.t 4],mode:=.pure,body :=
 (oQ [oW 2 (.box 66 2 (.t 0)),oW 4 (.move (oB false))]
 (oQ [oM 5 1,oW 6 (.arith .geq (.t 5) (oI 0)),oM 7 6,gM 8 1 7 true,gA 9 0 2 7 true,gD 10 9 7 true,gW 11 (.arith .lss (.t 8) (.t 10)) 7 true,oW 12 (.pick (.t 7) (.t 11) (oB false)),oM 4 12]
 .ret))}
theorem c70:aD Tryz.prog Tryz.f70 .pure=some t70:=by kernel_rfl
def E4:aI :=
 (oQ [oW 28 (.arith .lss (.t 27) (.t 26))]
 (.seq (.cond (.t 28) .skip (.exit 2))
 (.seq (.block 3 (oQ [oW 29 (.indexAddr 1 (.t 25) (.t 27)),oD 30 29,oM 8 30]
 (oQ [oM 32 5,oM 33 8,oW 34 (.lookup (.prim 1) (.int .i64 0) true (.t 32) (.t 33)),oM 31 34,oX 35 31 0,oX 36 31 1,oM 9 35,oM 10 36]
 (oQ [oM 37 10,oW 38 (.un .not (.t 37))]
 (.cond (.t 38) (oQ [oM 39 5,oM 40 8,oM 41 5,oM 42 6,oW 43 (.indexAddr 1 (.t 42) (oI 0)),oD 44 43,oW 45 (.lookup (.prim 1) (.int .i64 0) false (.t 41) (.t 44)),oW 46 (.arith .add (.t 45) (oI 1)),oZ (.mapUpdate (.prim 1) (.t 39) (.t 40) (.t 46))]
 (.region [oM 47 6,oM 48 8,oW 49 (.buildSlice 3 1 (.int .i64 0) 1 [(0,.t 48)]),oW 50 (.append 3 1 8 (.t 47) (.t 49)),oM 6 50])) .skip)))))
 (.region [oW 51 (.arith .add (.t 27) (oI 1)),oM 27 51]))))
def NK:aI :=
 (.region [oM 19 6,oW 20 (.sliceSl 1 (.t 19) (some (oI 1)) none),oM 6 20])
def CO:aI :=
 (.seq (oQ [oM 16 6,oW 17 (.len 1 (.t 16)),oW 18 (.arith .gtr (.t 17) (oI 0))]
 (.cond (.t 18) .skip (.exit 0)))
 (.seq (.block 1 (.seq (.draw [oRL 21 2 2,oRM 22 6,oR 23 (.indexAddr 1 (.t 22) (oI 0)),oRD 24 23,oW 25 (.call (oF 55) [.t 21,.t 24]),nK 26 (.len 1 (.t 25)) .read 1,oR 27 (.move (oI 0))])
 (.block 2 (.loop E4))))
 NK))
def E5:aI :=
 (oQ [oM 52 5,oM 4 52]
 .ret)
def t71:aK:={ntmps:=53,results:=[.t 4],mode:=.full,body :=
 (oQ [oW 2 (.box 66 2 (.t 0)),oW 4 (.move (.c .nmap))]
 (oQ [oW 11 (.makeMap),oM 12 1,oZ (.mapUpdate (.prim 1) (.t 11) (.t 12) (oI 0)),oM 13 11,oM 5 13]
 (.seq (oQ [oM 14 1,oW 15 (.buildSlice 3 1 (.int .i64 0) 1 [(0,.t 14)]),oM 6 15]
 (.block 0 (.loop CO)))
 E5)))}
theorem c71:aD Tryz.prog Tryz.f71 .full=some t71:=by kernel_rfl
def CN:aI :=
 (.seq (oQ [oM 15 9,oM 16 10,oW 17 (.arith .lss (.t 15) (.t 16))]
 (.cond (.t 17) .skip (.exit 0)))
 (.block 1 (oQ [oM 18 9,oM 19 10,oW 20 (.arith .add (.t 18) (.t 19)),oW 21 (.conv .u64 (.t 20)),oW 22 (.arith .shr (.t 21) (.c (.int .u64 1))),oW 23 (.conv .i64 (.t 22)),oM 11 23]
 (.seq (.draw [oRM 25 0,oRM 26 11,oR 27 (.indexAddr 2 (.t 25) (.t 26)),oRL 28 2 27,oRL 29 2 4,oRM 24 2,oW 30 (.call (.t 24) [.t 28,.t 29]),nK 31 (.arith .lss (.t 30) (oI 0)) .read 1])
 (.cond (.t 31) (.region [oM 32 11,oW 33 (.arith .add (.t 32) (oI 1)),oM 9 33]) (.region [oM 34 11,oM 10 34]))))))
def E3:aI :=
 (.seq (.draw [oRM 36 9,oRM 37 8,oR 38 (.arith .lss (.t 36) (.t 37)),oRM 39 38,rM 41 0 39 true,rM 42 9 39 true,rW 43 (.indexAddr 2 (.t 41) (.t 42)) 39 true,rL 44 2 43 39 true,rL 45 2 4 39 true,rM 40 2 39 true,gW 46 (.call (.t 40) [.t 44,.t 45]) 39 true,oRM 35 9,⟨(some 47),.arith .eql (.t 46) (oI 0),(some (39,true)),.read,1,false⟩,nK 48 (.pick (.t 39) (.t 47) (oB false)) .read 1,nK 6 (.move (.t 35)) .read 1,nK 7 (.move (.t 48)) .read 1])
 .ret)
def t75:aK:={ntmps:=49,results:=[.t 6,.t 7],mode:=.pure,body :=
 (oQ [oW 4 (.box 24 2 (.t 1)),oW 6 (.move (oI 0)),oW 7 (.move (oB false))]
 (oQ [oM 12 0,oW 13 (.len 1 (.t 12)),oM 8 13]
 (oQ [oM 14 8,oW 9 (.move (oI 0)),oM 10 14]
 (.seq (.block 0 (.loop CN))
 E3))))}
theorem c75:aD Tryz.prog Tryz.f75 .pure=some t75:=by kernel_rfl
def t76:aK:={ntmps:=17,results:=[.t 4],mode:=.pure,body :=
 (oQ [oW 2 (.box 24 2 (.t 0)),oW 3 (.box 24 2 (.t 1)),oW 4 (.move (oI 0))]
 (.seq (.draw [oRA 5 0 2,oRD 6 5,oRA 7 0 3,oRD 8 7,nK 9 (.call (oF 110) [.t 6,.t 8]) .create 0,oRA 10 1 2,oRD 11 10,oRA 12 1 3,oRD 13 12,nK 14 (.call (oF 110) [.t 11,.t 13]) .write 1,nK 15 (.buildSlice 3 1 (.int .i64 0) 2 [(0,.t 9),(1,.t 14)]) .create 0,nK 16 (.call (oF 109) [.t 15]) .write 3,nK 4 (.move (.t 16)) .read 4])
 .ret))}
theorem c76:aD Tryz.prog Tryz.f76 .pure=some t76:=by kernel_rfl
def CM:aI :=
 (.seq (oQ [oM 15 9,oM 16 10,oW 17 (.arith .lss (.t 15) (.t 16))]
 (.cond (.t 17) .skip (.exit 0)))
 (.block 1 (oQ [oM 18 9,oM 19 10,oW 20 (.arith .add (.t 18) (.t 19)),oW 21 (.conv .u64 (.t 20)),oW 22 (.arith .shr (.t 21) (.c (.int .u64 1))),oW 23 (.conv .i64 (.t 22)),oM 11 23]
 (.seq (.draw [oRM 25 0,oRM 26 11,oR 27 (.indexAddr 4 (.t 25) (.t 26)),oRL 28 4 27,oRL 29 2 4,oRM 24 2,oW 30 (.call (.t 24) [.t 28,.t 29]),nK 31 (.arith .lss (.t 30) (oI 0)) .read 1])
 (.cond (.t 31) (.region [oM 32 11,oW 33 (.arith .add (.t 32) (oI 1)),oM 9 33]) (.region [oM 34 11,oM 10 34]))))))
def E2:aI :=
 (.seq (.draw [oRM 36 9,oRM 37 8,oR 38 (.arith .lss (.t 36) (.t 37)),oRM 39 38,rM 41 0 39 true,rM 42 9 39 true,rW 43 (.indexAddr 4 (.t 41) (.t 42)) 39 true,rL 44 4 43 39 true,rL 45 2 4 39 true,rM 40 2 39 true,gW 46 (.call (.t 40) [.t 44,.t 45]) 39 true,oRM 35 9,⟨(some 47),.arith .eql (.t 46) (oI 0),(some (39,true)),.read,1,false⟩,nK 48 (.pick (.t 39) (.t 47) (oB false)) .read 1,nK 6 (.move (.t 35)) .read 1,nK 7 (.move (.t 48)) .read 1])
 .ret)
def t77:aK:={ntmps:=49,results:=[.t 6,.t 7],mode:=.pure,body :=
 (oQ [oW 4 (.box 24 2 (.t 1)),oW 6 (.move (oI 0)),oW 7 (.move (oB false))]
 (oQ [oM 12 0,oW 13 (.len 1 (.t 12)),oM 8 13]
 (oQ [oM 14 8,oW 9 (.move (oI 0)),oM 10 14]
 (.seq (.block 0 (.loop CM))
 E2))))}
theorem c77:aD Tryz.prog Tryz.f77 .pure=some t77:=by kernel_rfl
def t78:aK:={ntmps:=9,results:=[.t 4],mode:=.pure,body :=
 (oQ [oW 2 (.box 37 4 (.t 0)),oW 3 (.box 24 2 (.t 1)),oW 4 (.move (oI 0))]
 (oQ [oA 5 0 2,oL 6 2 5,oL 7 2 3,oW 8 (.call (oF 76) [.t 6,.t 7]),oM 4 8]
 .ret))}
theorem c78:aD Tryz.prog Tryz.f78 .pure=some t78:=by kernel_rfl
def t80:aK:={ntmps:=10,results:=[],mode:=.full,body :=
 (.region [oM 4 0,oM 5 0,oW 6 (.len 1 (.t 5)),oM 7 1,oW 8 (.arith .sub (.t 6) (.t 7)),oW 9 (.call (oF 111) [.t 4,.t 8])])}
theorem c80:aD Tryz.prog Tryz.f80 .full=some t80:=by kernel_rfl
def t82:aK:={ntmps:=10,results:=[],mode:=.full,body :=
 (.region [oM 4 0,oM 5 0,oW 6 (.len 1 (.t 5)),oM 7 1,oW 8 (.arith .sub (.t 6) (.t 7)),oW 9 (.call (oF 112) [.t 4,.t 8])])}
theorem c82:aD Tryz.prog Tryz.f82 .full=some t82:=by kernel_rfl
def t88:aK:={ntmps:=9,results:=[.t 4],mode:=.pure,body :=
 (oQ [oW 2 (.box 24 2 (.t 0)),oW 3 (.box 24 2 (.t 1)),oW 4 (.move (oB false))]
 (oQ [oL 5 2 2,oL 6 2 3,oW 7 (.call (oF 76) [.t 5,.t 6]),oW 8 (.arith .lss (.t 7) (oI 0)),oM 4 8]
 .ret))}
theorem c88:aD Tryz.prog Tryz.f88 .pure=some t88:=by kernel_rfl
def t91:aK:={ntmps:=21,results:=[.t 4,.t 5],mode:=.pure,body :=
 (oQ [oW 4 (.move (.c .nsl)),oW 5 (.move (oB false))]
 (oQ [oW 9 (.buildSlice 98 5 (.agg [.str [],.int .i64 0,.int .i64 0,.int .i64 0,.str []]) 0 []),oM 10 0,oW 11 (.append 98 5 56 (.t 9) (.t 10)),oM 12 1,oW 13 (.append 98 5 56 (.t 11) (.t 12)),oW 14 (.call (oF 125) [.t 13]),oM 8 14,oX 15 8 0,oX 16 8 1,oM 6 15,oM 7 16]
 (.seq (oQ [oM 17 7,oW 18 (.eqn 4 true (.t 17) (.c .nili))]
 (.cond (.t 18) (oQ [oW 4 (.move (.c .nsl)),oW 5 (.move (oB false))]
 .ret) .skip))
 (oQ [oM 19 6,oW 20 (.call (oF 126) [.t 19]),oM 4 20,oW 5 (.move (oB true))]
 .ret))))}
theorem c91:aD Tryz.prog Tryz.f91 .pure=some t91:=by kernel_rfl
def t92:aK:={ntmps:=73,results:=[(.cell 4 (some 6)),.t 5],mode:=.frz,body :=
 (oQ [oW 2 (.box 31 6 (.t 0)),oW 3 (.box 58 7 (.t 1)),oW 4 (.alloc 31 6 (.agg [.int .i64 0,.nsl,.nsl,.nsl,.nsl,.nsl])),oW 5 (.move (oB false))]
 (oQ [oA 11 4 2,oD 12 11,oW 13 (.call (oF 74) [.t 12]),oA 14 4 2,oS 1 14 13]
 (oQ [oL 16 6 2,oA 17 0 3,oL 18 2 17,oW 19 (.call (oF 66) [.t 16,.t 18]),oM 15 19,oX 20 15 0,oX 21 15 1,oW 6 (.alloc 37 4 (.agg [.int .i64 0,.int .i64 0,.nsl,.int .i64 0])),oS 4 6 20,oM 7 21]
 (oQ [oL 23 6 2,oA 24 0 3,oL 25 2 24,oA 26 2 3,oL 27 2 26,oW 28 (.call (oF 127) [.t 23,.t 25,.t 27]),oM 22 28,oX 29 22 0,oX 30 22 1,oM 8 29,oM 9 30]
 (oQ [oA 31 3 6,oD 32 31,oW 33 (.arith .eql (.t 32) (oI (-1))),oM 10 33]
 (.seq (oQ [oM 34 7,oW 35 (.un .not (.t 34)),oM 36 35,gM 37 9 36 false,oW 38 (.pick (.t 36) (oB true) (.t 37)),oM 39 38,gA 40 5 3 39 false,gD 41 40 39 false,gA 42 3 6 39 false,gD 43 42 39 false,gW 44 (.arith .eql (.t 41) (.t 43)) 39 false,gM 45 44 39 false,gM 46 10 45 true,gW 47 (.un .not (.t 46)) 45 true,gW 48 (.pick (.t 45) (.t 47) (oB false)) 39 false,oW 49 (.pick (.t 39) (oB true) (.t 48))]
 (.cond (.t 49) (oQ [oL 50 6 2,oS 6 4 50,oW 5 (.move (oB false))]
 .ret) .skip))
 (oQ [oM 51 10,oW 52 (.un .not (.t 51)),oM 53 52,gL 54 6 2 53 true,gA 55 0 3 53 true,gL 56 2 55 53 true,gA 57 4 3 53 true,gD 58 57 53 true,gW 59 (.call (oF 128) [.t 54,.t 56,.t 58]) 53 true,gW 60 (.un .not (.t 59)) 53 true,oW 61 (.pick (.t 53) (.t 60) (oB false)),oA 62 6 3,oS 1 62 61]
 (oQ [oA 63 4 2,oD 64 63,oM 65 8,oL 66 7 3,oW 67 (.buildSlice 58 7 (.agg [.int .i64 0,.int .i64 0,.int .i64 0,.int .i64 0,.nsl,.int .i64 0,.bool false]) 1 [(0,.t 66)]),oW 68 (.call (oF 129) [.t 64,.t 65,.t 67]),oA 69 4 2,oS 1 69 68]
 (.seq (.draw [⟨(some 70),.load (some 6) (.t 2),none,.read,0,true⟩,oRA 71 6 3,oRD 72 71,⟨none,.store 6 (.t 4) (.t 70),none,.create,0,false⟩,nK 5 (.move (.t 72)) .read 1])
 .ret)))))))))}
theorem c92:aD Tryz.prog Tryz.f92 .frz=some t92:=by kernel_rfl
def t93:aK:={ntmps:=10,results:=[(.cell 2 (some 7))],mode:=.pure,body :=
 (oQ [oW 1 (.box 58 7 (.t 0)),oW 2 (.alloc 52 7 (.agg [.int .i64 0,.int .i64 0,.int .i64 0,.int .i64 0,.int .i64 0,.nsl,.nsl]))]
 (oQ [oA 3 0 1,oL 4 2 3,oA 5 2 1,oL 6 2 5,oA 7 4 1,oD 8 7,oW 9 (.build [.int .i64 0,.int .i64 0,.int .i64 0,.int .i64 0,.int .i64 0,.nsl,.nsl] [(0,1,oI 3),(1,2,.t 4),(3,2,.t 6),(5,1,.t 8)]),oS 7 2 9]
 .ret))}
theorem c93:aD Tryz.prog Tryz.f93 .pure=some t93:=by kernel_rfl
def TU:aI :=
 (oQ [oW 59 (.arith .lss (.t 58) (.t 57))]
 (.seq (.cond (.t 59) .skip (.exit 0))
 (.seq (.block 1 (oQ [oM 60 58,oW 61 (.indexAddr 7 (.t 56) (.t 58)),oL 62 7 61,oW 14 (.alloc 58 7 (.agg [.int .i64 0,.int .i64 0,.int .i64 0,.int .i64 0,.nsl,.int .i64 0,.bool false])),oM 13 60,oS 7 14 62]
 (oQ [oA 63 0 14,oL 64 2 63,oL 65 2 5,oW 66 (.eqa false [1,1] (.t 64) (.t 65)),oM 67 66,gA 68 6 14 67 true,gD 69 68 67 true,gW 70 (.un .not (.t 69)) 67 true,oW 71 (.pick (.t 67) (.t 70) (oB false)),oM 72 71,gL 73 6 4 72 true,gL 74 2 5 72 true,gA 75 4 14 72 true,gD 76 75 72 true,gW 77 (.call (oF 128) [.t 73,.t 74,.t 76]) 72 true,gW 78 (.un .not (.t 77)) 72 true,oW 79 (.pick (.t 72) (.t 78) (oB false))]
 (.cond (.t 79) (oQ [oA 80 4 4,oD 81 80,oM 82 13,oW 83 (.indexAddr 7 (.t 81) (.t 82)),oA 84 6 83,oZ (.store 1 (.t 84) (oB true))]
 (.region [oM 85 9,oA 86 4 4,oD 87 86,oM 88 13,oW 89 (.indexAddr 7 (.t 87) (.t 88)),oL 90 7 89,oW 91 (.buildSlice 58 7 (.agg [.int .i64 0,.int .i64 0,.int .i64 0,.int .i64 0,.nsl,.int .i64 0,.bool false]) 1 [(0,.t 90)]),oW 92 (.append 58 7 72 (.t 85) (.t 91)),oM 9 92])) .skip))))
 (.region [oW 93 (.arith .add (.t 58) (oI 1)),oM 58 93]))))
def TV:aI :=
 (oQ [oL 94 6 4,oM 95 9,oS 6 8 94,oM 9 95,oW 10 (.move (oB true))]
 .ret)
def t94:aK:={ntmps:=96,results:=[(.cell 8 (some 6)),.t 9,.t 10],mode:=.frz,body :=
 (oQ [oW 4 (.box 31 6 (.t 0)),oW 5 (.box 24 2 (.t 1)),oW 6 (.box 24 2 (.t 2)),oW 8 (.alloc 31 6 (.agg [.int .i64 0,.nsl,.nsl,.nsl,.nsl,.nsl])),oW 9 (.move (.c .nsl)),oW 10 (.move (oB false))]
 (oQ [oA 15 4 4,oD 16 15,oW 17 (.call (oF 74) [.t 16]),oA 18 4 4,oS 1 18 17]
 (oQ [oL 20 6 4,oL 21 2 5,oL 22 2 6,oW 23 (.call (oF 127) [.t 20,.t 21,.t 22]),oM 19 23,oX 24 19 0,oX 25 19 1,oM 11 24,oM 12 25]
 (.seq (oQ [oM 26 12,oW 27 (.un .not (.t 26)),oM 28 27,gA 29 4 4 28 false,gD 30 29 28 false,gM 31 11 28 false,gW 32 (.indexAddr 7 (.t 30) (.t 31)) 28 false,gA 33 5 32 28 false,gD 34 33 28 false,gM 35 3 28 false,gW 36 (.arith .neq (.t 34) (.t 35)) 28 false,oW 37 (.pick (.t 28) (oB true) (.t 36))]
 (.cond (.t 37) (oQ [oL 38 6 4,oS 6 8 38,oW 9 (.move (.c .nsl)),oW 10 (.move (oB false))]
 .ret) .skip))
 (oQ [oA 39 4 4,oD 40 39,oM 41 11,oW 42 (.indexAddr 7 (.t 40) (.t 41)),oA 43 6 42,oD 44 43,oM 10 44]
 (oQ [oA 45 4 4,oD 46 45,oM 47 11,oM 48 11,oW 49 (.arith .add (.t 48) (oI 1)),oW 50 (.call (oF 130) [.t 46,.t 47,.t 49]),oA 51 4 4,oS 1 51 50]
 (.seq (oQ [oM 52 10,oW 53 (.un .not (.t 52))]
 (.cond (.t 53) (oQ [oL 54 6 4,oS 6 8 54,oW 9 (.move (.c .nsl)),oW 10 (.move (oB false))]
 .ret) .skip))
 (.seq (oQ [oA 55 4 4,oD 56 55,oW 57 (.len 1 (.t 56)),oW 58 (.move (oI 0))]
 (.block 0 (.loop TU)))
 TV))))))))}
theorem c94:aD Tryz.prog Tryz.f94 .frz=some t94:=by kernel_rfl
def t95:aK:={ntmps:=8,results:=[.t 4],mode:=.pure,body :=
 (oQ [oW 4 (.move (oB false))]
 (oQ [oM 5 0,oM 6 1,oW 7 (.call (oF 131) [.t 5,.t 6]),oM 4 7]
 .ret))}
theorem c95:aD Tryz.prog Tryz.f95 .pure=some t95:=by kernel_rfl
def t96:aK:={ntmps:=48,results:=[.t 4],mode:=.pure,body :=
 (oQ [oW 2 (.box 98 5 (.t 0)),oW 3 (.box 167 3 (.t 1)),oW 4 (.move (oB false))]
 (.seq (oQ [oA 5 1 2,oD 6 5]
 (.block 0 (oQ [oW 8 (.arith .eql (.t 6) (oI 1)),oM 7 8]
 (.cond (.t 7) (oQ [oA 9 0 3,oD 10 9,oW 11 (.un .not (.t 10)),oM 12 11,gA 13 2 2 12 true,gD 14 13 12 true,gA 15 1 3 12 true,gD 16 15 12 true,gW 17 (.arith .leq (.t 14) (.t 16)) 12 true,oW 18 (.pick (.t 12) (.t 17) (oB false)),oM 19 18,gA 20 1 3 19 true,gD 21 20 19 true,gA 22 3 2 19 true,gD 23 22 19 true,gW 24 (.arith .leq (.t 21) (.t 23)) 19 true,oW 25 (.pick (.t 19) (.t 24) (oB false)),oM 4 25]
 .ret) (oQ [oW 27 (.arith .eql (.t 6) (oI 2)),oM 26 27]
 (.cond (.t 26) (oQ [oA 28 0 3,oD 29 28,oM 30 29,gA 31 2 3 30 true,gD 32 31 30 true,gA 33 4 2 30 true,gD 34 33 30 true,gW 35 (.arith .eql (.t 32) (.t 34)) 30 true,oW 36 (.pick (.t 30) (.t 35) (oB false)),oM 4 36]
 .ret) (oQ [oW 38 (.arith .eql (.t 6) (oI 3)),oM 37 38]
 (.cond (.t 37) (oQ [oA 39 0 3,oD 40 39,oM 41 40,gA 42 2 3 41 true,gD 43 42 41 true,gA 44 4 2 41 true,gD 45 44 41 true,gW 46 (.call (oF 95) [.t 43,.t 45]) 41 true,oW 47 (.pick (.t 41) (.t 46) (oB false)),oM 4 47]
 .ret) .skip))))))))
 (oQ [oW 4 (.move (oB false))]
 .ret)))}
theorem c96:aD Tryz.prog Tryz.f96 .pure=some t96:=by kernel_rfl
def t97:aK:={ntmps:=5,results:=[(.cell 2 (some 3))],mode:=.pure,body :=
 (oQ [oW 2 (.alloc 167 3 (.agg [.bool false,.int .i64 0,.str []]))]
 (oQ [oM 3 0,oW 4 (.build [.bool false,.int .i64 0,.str []] [(0,1,oB true),(2,1,.t 3)]),oS 3 2 4]
 .ret))}
theorem c97:aD Tryz.prog Tryz.f97 .pure=some t97:=by kernel_rfl
def t98:aK:={ntmps:=22,results:=[.t 4],mode:=.pure,body :=
 (oQ [oW 2 (.box 66 2 (.t 0)),oW 3 (.box 76 2 (.t 1)),oW 4 (.move (oB false))]
 (oQ [oL 5 2 2,oW 6 (.indexArr 2 1 (.t 3) (oI 0)),oD 7 6,oW 8 (.call (oF 70) [.t 5,.t 7]),oM 9 8,gL 10 2 2 9 true,gW 11 (.indexArr 2 1 (.t 3) (oI 1)) 9 true,gD 12 11 9 true,gW 13 (.call (oF 70) [.t 10,.t 12]) 9 true,oW 14 (.pick (.t 9) (.t 13) (oB false)),oM 15 14,gW 16 (.indexArr 2 1 (.t 3) (oI 0)) 15 true,gD 17 16 15 true,gW 18 (.indexArr 2 1 (.t 3) (oI 1)) 15 true,gD 19 18 15 true,gW 20 (.arith .neq (.t 17) (.t 19)) 15 true,oW 21 (.pick (.t 15) (.t 20) (oB false)),oM 4 21]
 .ret))}
theorem c98:aD Tryz.prog Tryz.f98 .pure=some t98:=by kernel_rfl
def t99:aK:={ntmps:=14,results:=[(.cell 2 (some 2))],mode:=.pure,body :=
 (oQ [oW 1 (.box 76 2 (.t 0)),oW 2 (.alloc 76 2 (.agg [.int .i64 0,.int .i64 0]))]
 (oQ [oW 3 (.indexArr 2 1 (.t 1) (oI 0)),oD 4 3,oW 5 (.indexArr 2 1 (.t 1) (oI 1)),oD 6 5,oW 7 (.minmax false (.t 4) (.t 6)),oW 8 (.indexArr 2 1 (.t 1) (oI 0)),oD 9 8,oW 10 (.indexArr 2 1 (.t 1) (oI 1)),oD 11 10,oW 12 (.minmax true (.t 9) (.t 11)),oW 13 (.build [.int .i64 0,.int .i64 0] [(0,1,.t 7),(1,1,.t 12)]),oS 2 2 13]
 .ret))}
theorem c99:aD Tryz.prog Tryz.f99 .pure=some t99:=by kernel_rfl
def Lz:aI :=
 (oQ [oW 10 (.arith .lss (.t 9) (.t 8))]
 (.seq (.cond (.t 10) .skip (.exit 0))
 (.seq (.block 1 (oQ [oW 11 (.indexAddr 2 (.t 7) (.t 9)),oL 12 2 11,oW 5 (.alloc 76 2 (.agg [.int .i64 0,.int .i64 0])),oS 2 5 12]
 (oQ [oL 13 2 1,oL 14 2 5,oW 15 (.call (oF 98) [.t 13,.t 14])]
 (.cond (.t 15) (.region [oM 16 3,oL 17 2 5,oW 18 (.indexArr 2 1 (.t 5) (oI 1)),oD 19 18,oW 20 (.indexArr 2 1 (.t 5) (oI 0)),oD 21 20,oW 22 (.build [.int .i64 0,.int .i64 0] [(0,1,.t 19),(1,1,.t 21)]),oW 23 (.buildSlice 76 2 (.agg [.int .i64 0,.int .i64 0]) 2 [(0,.t 17),(1,.t 22)]),oW 24 (.append 76 2 16 (.t 16) (.t 23)),oM 3 24]) .skip))))
 (.region [oW 25 (.arith .add (.t 9) (oI 1)),oM 9 25]))))
def Dv:aI :=
 (oQ [oM 26 3,oW 27 (.call (oF 132) [.t 26,oF 133])]
 (oQ [oM 28 3,oW 29 (.call (oF 134) [.t 28]),oM 2 29]
 .ret))
def P9:aK:={ntmps:=30,results:=[.t 2],mode:=.pure,body :=
 (oQ [oW 1 (.box 66 2 (.t 0)),oW 2 (.move (.c .nsl))]
 (oQ [oW 3 (.move (.c .nsl))]
 (.seq (oQ [oA 6 1 1,oD 7 6,oW 8 (.len 1 (.t 7)),oW 9 (.move (oI 0))]
 (.block 0 (.loop Lz)))
 Dv)))}
theorem o8:aD Tryz.prog Tryz.f101 .pure=some P9:=by kernel_rfl
def CX:aK:={ntmps:=16,results:=[.t 4],mode:=.full,body :=
 (oQ [oW 4 (.move (oB false))]
 (oQ [oM 5 1,oW 6 (.arith .geq (.t 5) (oI 0)),oM 7 6,gM 8 1 7 true,gM 9 0 7 true,gW 10 (.nilCheck (.t 9)) 7 true,gA 11 2 10 7 true,gD 12 11 7 true,gW 13 (.len 1 (.t 12)) 7 true,gW 14 (.arith .lss (.t 8) (.t 13)) 7 true,oW 15 (.pick (.t 7) (.t 14) (oB false)),oM 4 15]
 .ret))}
theorem o7:aD Tryz.prog Tryz.f102 .full=some CX:=by kernel_rfl
def Ly:aI :=
 (oQ [oW 14 (.arith .lss (.t 13) (.t 12))]
 (.seq (.cond (.t 14) .skip (.exit 0))
 (.seq (.block 1 (oQ [oW 15 (.indexAddr 1 (.t 11) (.t 13)),oD 16 15,oM 9 16]
 (oQ [oM 17 9,oM 18 1,oW 19 (.arith .neq (.t 17) (.t 18))]
 (.cond (.t 19) (.region [oM 20 7,oM 21 9,oL 22 7 5,oW 23 (.build [.int .i64 0,.int .i64 0,.int .i64 0,.int .i64 0,.int .i64 0,.int .i64 0,.nsl,.nsl] [(0,1,.t 21),(1,7,.t 22)]),oW 24 (.buildSlice 54 8 (.agg [.int .i64 0,.int .i64 0,.int .i64 0,.int .i64 0,.int .i64 0,.int .i64 0,.nsl,.nsl]) 1 [(0,.t 23)]),oW 25 (.append 54 8 96 (.t 20) (.t 24)),oM 7 25]) .skip))))
 (.region [oW 26 (.arith .add (.t 13) (oI 1)),oM 13 26]))))
def Wj:aI :=
 (oQ [oM 27 7,oM 6 27]
 .ret)
def CW:aK:={ntmps:=28,results:=[.t 6],mode:=.full,body :=
 (oQ [oW 3 (.box 31 6 (.t 0)),oW 5 (.box 52 7 (.t 2)),oW 6 (.move (.c .nsl))]
 (oQ [oW 7 (.move (.c .nsl))]
 (.seq (oQ [oA 10 1 3,oD 11 10,oW 12 (.len 1 (.t 11)),oW 13 (.move (oI 0))]
 (.block 0 (.loop Ly)))
 Wj)))}
theorem o6:aD Tryz.prog Tryz.f103 .full=some CW:=by kernel_rfl
end Go.Dm.Tc
